/- Function 12, kaudit/process.Setuid: what it answers as a plain function, and that the Go code comes to exactly that (where the plain function gives an answer). -/
import Derived.Test.YtanimjbmkhpnaaaXT
import Derived.Test.YtanimjbmkhpnaaaX37
import Derived.Test.YtanimjbmkhpnaaaX39
import Derived.Test.YtanimjbmkhpnaaaX54
set_option linter.unusedVariables false
set_option linter.unusedSimpArgs false
namespace Go.Proofs.Ytanimjbmkhpnaaa.Gx
open Go.Gx Go.RowKit
/-! ### kaudit/process.Setuid: function 12 -/
def f_process_Setuid (a0 : api_Table) (a1 : Int) (a2 : Int) : Option (api_Table × Int) := (f_process_place a0 a1).bind fun y848 => if y848.2 = true then ((f_own_Table a0).bind fun y873 => (at_ y873.Processes y848.1).bind fun u893 => (f_process_between 4294967294 [a2]).bind fun y974 => if y974 = true then (if (u893.EUID == 0) = true then ((at_ (y873.Processes.set y848.1.toNat (⟨u893.PID, u893.PPID, a2, u893.EUID, u893.GID, u893.EGID, u893.AUID, u893.Session, u893.Cwd, u893.Comm, u893.Exe, u893.Open, u893.Audited⟩ : api_Process)) y848.1).bind fun u1007 => some (((⟨y873.Next, y873.NextSession, ((y873.Processes.set y848.1.toNat (⟨u893.PID, u893.PPID, a2, u893.EUID, u893.GID, u893.EGID, u893.AUID, u893.Session, u893.Cwd, u893.Comm, u893.Exe, u893.Open, u893.Audited⟩ : api_Process)).set y848.1.toNat (⟨u1007.PID, u1007.PPID, u1007.UID, a2, u1007.GID, u1007.EGID, u1007.AUID, u1007.Session, u1007.Cwd, u1007.Comm, u1007.Exe, u1007.Open, u1007.Audited⟩ : api_Process))⟩ : api_Table), 0))) else (if (a2 == u893.UID) = true then (some (((⟨y873.Next, y873.NextSession, (y873.Processes.set y848.1.toNat (⟨u893.PID, u893.PPID, u893.UID, a2, u893.GID, u893.EGID, u893.AUID, u893.Session, u893.Cwd, u893.Comm, u893.Exe, u893.Open, u893.Audited⟩ : api_Process))⟩ : api_Table), 0))) else (if (a2 == u893.EUID) = true then (some (((⟨y873.Next, y873.NextSession, (y873.Processes.set y848.1.toNat (⟨u893.PID, u893.PPID, u893.UID, a2, u893.GID, u893.EGID, u893.AUID, u893.Session, u893.Cwd, u893.Comm, u893.Exe, u893.Open, u893.Audited⟩ : api_Process))⟩ : api_Table), 0))) else (some (((⟨0, 0, ([] : List api_Process)⟩ : api_Table), 1)))))) else (some (((⟨0, 0, ([] : List api_Process)⟩ : api_Table), 22)))) else (some (((⟨0, 0, ([] : List api_Process)⟩ : api_Table), 3)))
set_option maxHeartbeats 4000000 in
set_option maxRecDepth 100000 in
theorem C12 (a0 : api_Table) (a1 : Int) (a2 : Int) (p773 : Option Addr) (c774 : Nat) (r : api_Table × Int) (w : World) (h : f_process_Setuid a0 a1 a2 = some r) : Fun Try.prog 12 #[.agg #[.int .i64 a0.Next, .int .i64 a0.NextSession, .slice p773 a0.Processes.length c774], .int .i64 a1, .int .i64 a2] w [vw (kSlice 38 k_api_Process) a0.Processes [.slice p773 a0.Processes.length c774]] (fun (v_ : Value) (A_ : List VP) (N_ : List (List SP)) => ∃ (p775 : Option Addr) (c776 : Nat), v_ = .tuple #[.agg #[.int .i64 r.1.Next, .int .i64 r.1.NextSession, .slice p775 r.1.Processes.length c776], .int .i64 r.2] ∧ A_ = [] ∧ N_ = [[row 38 k_api_Process r.1.Processes (.slice p775 r.1.Processes.length c776)]]) := by
  unfold f_process_Setuid at h
  refine fun_begin (args := [.agg #[.int .i64 a0.Next, .int .i64 a0.NextSession, .slice p773 a0.Processes.length c774], .int .i64 a1, .int .i64 a2]) Try.func12 rfl Try.ntmps12 rfl fun Z a E H => ?_
  refine wp_seq_k fun _ hK777 => ?_
  refine wp_region_lit ?_
  refine wl_cons (wl_box (T := 28) (cs := [.int .i64 a0.Next, .int .i64 a0.NextSession, .slice p773 a0.Processes.length c774]) E H rfl rfl rfl rfl fun g778 w779 a780 E781 H' => ?_)
  clear H E; have H := H'; clear H'
  refine wl_cons (wl_box (T := 3) (cs := [.int .i64 a2]) E781 H rfl rfl rfl rfl fun g782 w783 a784 E785 H' => ?_)
  clear H E781; have H := H'; clear H'
  refine wl_cons (wl_alloc (cs := [.int .i64 0, .int .i64 0, .slice none 0 0]) E785 H rfl ti28 rfl rfl fun g786 w787 a788 E789 H' => ?_)
  clear H E785; have H := H'; clear H'
  replace H : St w Nil Z w787 [vw (kSlice 38 k_api_Process) a0.Processes [.slice p773 a0.Processes.length c774]] [[blk g778 [.int .i64 a0.Next, .int .i64 a0.NextSession, .slice p773 a0.Processes.length c774] 28], [blk g782 [.int .i64 a2] 3], [blk g786 [.int .i64 0, .int .i64 0, .slice none 0 0] 28]] := H
  refine wl_cons (wl_val E789 rfl (rn_assign E789 rfl rfl) rfl fun a790 E791 => ?_)
  clear E789
  refine wl_nil ?_
  refine then_normal (hK777 _ _ ?_)
  refine wp_seq_k fun _ hK792 => ?_
  refine wp_region_lit ?_
  refine wl_cons (wl_val E791 rfl (rn_ldN (i := 0) [.int .i64 a0.Next, .int .i64 a0.NextSession, .slice p773 a0.Processes.length c774] E791 H rfl Try.underlying28 rfl ti28 rfl rfl rfl rfl) rfl fun a793 E794 => ?_)
  clear E791
  refine wl_cons (wl_val E794 rfl (rn_move E794 rfl rfl) rfl fun a795 E796 => ?_)
  clear E794
  refine wl_cons (wl_val E796 rfl (rn_makeFunc (vs := [.pointer (some ⟨g782, 0, none⟩)]) E796 rfl rfl) rfl fun a797 E798 => ?_)
  clear E796
  refine wl_cons (wl_in rfl (rn_callC (args := [.agg #[.int .i64 a0.Next, .int .i64 a0.NextSession, .slice p773 a0.Processes.length c774], .int .i64 a1, .func (.func 35) #[] #[.pointer (some ⟨g782, 0, none⟩)]]) (cap := []) (all := [.agg #[.int .i64 a0.Next, .int .i64 a0.NextSession, .slice p773 a0.Processes.length c774], .int .i64 a1, .func (.func 35) #[] #[.pointer (some ⟨g782, 0, none⟩)]]) E798 rfl rfl rfl Try.func34 nm34 rfl rfl) Try.func34 rfl fun a799 he800 => ?_)
  have E801 : Env 20 a799 (enumA 0 [.agg #[.int .i64 a0.Next, .int .i64 a0.NextSession, .slice p773 a0.Processes.length c774], .int .i64 a1, .func (.func 35) #[] #[.pointer (some ⟨g782, 0, none⟩)]]) := he800 ▸ Env.init Try.ntmps34 rfl
  clear he800
  refine wp_seq_k fun _ hK802 => ?_
  refine wp_region_lit ?_
  refine wl_cons (wl_box (T := 28) (cs := [.int .i64 a0.Next, .int .i64 a0.NextSession, .slice p773 a0.Processes.length c774]) E801 H rfl rfl rfl rfl fun g803 w804 a805 E806 H' => ?_)
  clear H E801; have H := H'; clear H'
  refine wl_cons (wl_box (T := 68) (cs := [.func (.func 35) #[] #[.pointer (some ⟨g782, 0, none⟩)]]) E806 H rfl rfl rfl rfl fun g807 w808 a809 E810 H' => ?_)
  clear H E806; have H := H'; clear H'
  refine wl_cons (wl_alloc (cs := [.int .i64 0, .int .i64 0, .slice none 0 0]) E810 H rfl ti28 rfl rfl fun g811 w812 a813 E814 H' => ?_)
  clear H E810; have H := H'; clear H'
  replace H : St w Nil Z w812 [vw (kSlice 38 k_api_Process) a0.Processes [.slice p773 a0.Processes.length c774]] [[blk g778 [.int .i64 a0.Next, .int .i64 a0.NextSession, .slice p773 a0.Processes.length c774] 28], [blk g782 [.int .i64 a2] 3], [blk g786 [.int .i64 0, .int .i64 0, .slice none 0 0] 28], [blk g803 [.int .i64 a0.Next, .int .i64 a0.NextSession, .slice p773 a0.Processes.length c774] 28], [blk g807 [.func (.func 35) #[] #[.pointer (some ⟨g782, 0, none⟩)]] 68], [blk g811 [.int .i64 0, .int .i64 0, .slice none 0 0] 28]] := H
  refine wl_cons (wl_val E814 rfl (rn_assign E814 rfl rfl) rfl fun a815 E816 => ?_)
  clear E814
  refine wl_nil ?_
  refine then_normal (hK802 _ _ ?_)
  refine wp_seq_k fun _ hK817 => ?_
  refine wp_region_lit ?_
  refine wl_cons (wl_val E816 rfl (rn_ldN (i := 3) [.int .i64 a0.Next, .int .i64 a0.NextSession, .slice p773 a0.Processes.length c774] E816 H rfl Try.underlying28 rfl ti28 rfl rfl rfl rfl) rfl fun a818 E819 => ?_)
  clear E816
  refine wl_cons (wl_val E819 rfl (rn_move E819 rfl rfl) rfl fun a820 E821 => ?_)
  clear E819
  refine wl_cons (wl_val E821 rfl (rn_makeFunc (vs := [.pointer (some ⟨g807, 0, none⟩)]) E821 rfl rfl) rfl fun a822 E823 => ?_)
  clear E821
  refine wl_cons (wl_in rfl (rn_callC (args := [.agg #[.int .i64 a0.Next, .int .i64 a0.NextSession, .slice p773 a0.Processes.length c774], .int .i64 a1, .func (.func 57) #[] #[.pointer (some ⟨g807, 0, none⟩)]]) (cap := []) (all := [.agg #[.int .i64 a0.Next, .int .i64 a0.NextSession, .slice p773 a0.Processes.length c774], .int .i64 a1, .func (.func 57) #[] #[.pointer (some ⟨g807, 0, none⟩)]]) E823 rfl rfl rfl Try.func56 nm56 rfl rfl) Try.func56 rfl fun a824 he825 => ?_)
  have E826 : Env 42 a824 (enumA 0 [.agg #[.int .i64 a0.Next, .int .i64 a0.NextSession, .slice p773 a0.Processes.length c774], .int .i64 a1, .func (.func 57) #[] #[.pointer (some ⟨g807, 0, none⟩)]]) := he825 ▸ Env.init Try.ntmps56 rfl
  clear he825
  refine wp_seq_k fun _ hK827 => ?_
  refine wp_region_lit ?_
  refine wl_cons (wl_box (T := 28) (cs := [.int .i64 a0.Next, .int .i64 a0.NextSession, .slice p773 a0.Processes.length c774]) E826 H rfl rfl rfl rfl fun g828 w829 a830 E831 H' => ?_)
  clear H E826; have H := H'; clear H'
  refine wl_cons (wl_alloc (cs := [.int .i64 0, .int .i64 0, .slice none 0 0]) E831 H rfl ti28 rfl rfl fun g832 w833 a834 E835 H' => ?_)
  clear H E831; have H := H'; clear H'
  refine wl_cons (wl_val E835 rfl (rn_assign E835 rfl rfl) rfl fun a836 E837 => ?_)
  clear E835
  refine wl_cons (wl_val E837 rfl (rn_assign E837 rfl rfl) rfl fun a838 E839 => ?_)
  clear E837
  refine wl_nil ?_
  refine then_normal (hK827 _ _ ?_)
  refine wp_seq_k fun _ hK840 => ?_
  refine wp_region_lit ?_
  refine wl_cons (wl_val E839 rfl (rn_assign E839 rfl rfl) rfl fun a841 E842 => ?_)
  clear E839
  refine wl_nil ?_
  refine then_normal (hK840 _ _ ?_)
  refine wp_seq_k fun _ hK843 => ?_
  refine wp_region_lit ?_
  refine wl_cons (wl_val E842 rfl (rn_ldN (i := 6) [.int .i64 a0.Next, .int .i64 a0.NextSession, .slice p773 a0.Processes.length c774] E842 H rfl Try.underlying28 rfl ti28 rfl rfl rfl rfl) rfl fun a844 E845 => ?_)
  clear E842
  refine wl_cons (wl_val E845 rfl (rn_move E845 rfl rfl) rfl fun a846 E847 => ?_)
  clear E845
  obtain ⟨y848, hy849, h⟩ := bs h
  refine wl_cons (wl_fun E847 H rfl (rn_call (args := [.agg #[.int .i64 a0.Next, .int .i64 a0.NextSession, .slice p773 a0.Processes.length c774], .int .i64 a1]) E847 rfl rfl rfl Try.func37 nm37 rfl) rfl (by exact fun Z hA => ⟨(argHolds_get hA (k := 0) rfl), trivial⟩) (C37 a0 a1 p773 c774 _ _ hy849) ?_)
  rintro v_ A_ N_ w852 a850 ⟨rfl, rfl, rfl⟩ E851 H'
  replace H := H'; clear H' E847
  replace H : St w Nil Z w852 [vw (kSlice 38 k_api_Process) a0.Processes [.slice p773 a0.Processes.length c774]] [[blk g778 [.int .i64 a0.Next, .int .i64 a0.NextSession, .slice p773 a0.Processes.length c774] 28], [blk g782 [.int .i64 a2] 3], [blk g786 [.int .i64 0, .int .i64 0, .slice none 0 0] 28], [blk g803 [.int .i64 a0.Next, .int .i64 a0.NextSession, .slice p773 a0.Processes.length c774] 28], [blk g807 [.func (.func 35) #[] #[.pointer (some ⟨g782, 0, none⟩)]] 68], [blk g811 [.int .i64 0, .int .i64 0, .slice none 0 0] 28], [blk g828 [.int .i64 a0.Next, .int .i64 a0.NextSession, .slice p773 a0.Processes.length c774] 28], [blk g832 [.int .i64 0, .int .i64 0, .slice none 0 0] 28]] := H
  refine wl_cons (wl_val E851 rfl (rn_move E851 rfl rfl) rfl fun a853 E854 => ?_)
  clear E851
  refine wl_cons (wl_val E854 rfl (rn_extract E854 rfl rfl rfl) rfl fun a855 E856 => ?_)
  clear E854
  refine wl_cons (wl_val E856 rfl (rn_extract E856 rfl rfl rfl) rfl fun a857 E858 => ?_)
  clear E856
  refine wl_cons (wl_val E858 rfl (rn_assign E858 rfl rfl) rfl fun a859 E860 => ?_)
  clear E858
  refine wl_cons (wl_val E860 rfl (rn_assign E860 rfl rfl) rfl fun a861 E862 => ?_)
  clear E860
  refine wl_nil ?_
  refine then_normal (hK843 _ _ ?_)
  refine wp_seq_k fun _ hK863 => ?_
  refine wp_seq_k fun _ hK864 => ?_
  refine wp_region_lit ?_
  refine wl_cons (wl_val E862 rfl (rn_move E862 rfl rfl) rfl fun a865 E866 => ?_)
  clear E862
  refine wl_cons (wl_val E866 rfl (rn_not E866 rfl rfl) rfl fun a867 E868 => ?_)
  clear E866
  refine wl_nil ?_
  refine then_normal (hK864 _ _ ?_)
  rcases Bool.eq_false_or_eq_true y848.2 with hb869 | hb869
  · replace h := itT hb869 h
    refine wc_F E868 rfl (congrArg Bool.not hb869) ?_
    refine wp_skip ?_
    refine then_normal (hK863 _ _ ?_)
    refine wp_seq_k fun _ hK870 => ?_
    refine wp_region_lit ?_
    refine wl_cons (wl_val E868 rfl (rn_ldN (i := 6) [.int .i64 a0.Next, .int .i64 a0.NextSession, .slice p773 a0.Processes.length c774] E868 H rfl Try.underlying28 rfl ti28 rfl rfl rfl rfl) rfl fun a871 E872 => ?_)
    clear E868
    obtain ⟨y873, hy874, h⟩ := bs h
    refine wl_cons (wl_fun E872 H rfl (rn_call (args := [.agg #[.int .i64 a0.Next, .int .i64 a0.NextSession, .slice p773 a0.Processes.length c774]]) E872 rfl rfl rfl Try.func54 nm54 rfl) rfl (by exact fun Z hA => ⟨(argHolds_get hA (k := 0) rfl), trivial⟩) (C54 a0 p773 c774 _ _ hy874) ?_)
    rintro v_ A_ N_ w880 a878 ⟨p875, c876, rfl, rfl, rfl⟩ E879 H'
    replace H := H'; clear H' E872
    refine wl_cons (wl_store (i := 6) (vs := [.int .i64 y873.Next, .int .i64 y873.NextSession, .slice p875 y873.Processes.length c876]) (cs' := [.int .i64 y873.Next, .int .i64 y873.NextSession, .slice p875 y873.Processes.length c876]) E879 H rfl rfl rfl rfl ti28 rfl rfl rfl rfl rfl rfl fun w883 a881 E882 H' => ?_)
    clear H E879; have H := H'; clear H'
    refine wl_nil ?_
    refine then_normal (hK870 _ _ ?_)
    refine wp_seq_k fun _ hK884 => ?_
    refine wp_region_lit ?_
    refine wl_cons (wl_val E882 rfl (rn_move E882 rfl rfl) rfl fun a885 E886 => ?_)
    clear E882
    refine wl_cons (wl_val E886 rfl (rn_fieldAddr E886 rfl Try.underlying28 rfl ti26 rfl rfl) rfl fun a887 E888 => ?_)
    clear E886
    refine wl_cons (wl_val E888 rfl (rn_ld1 (i := 6) E888 H rfl Try.underlying26 rfl rfl rfl rfl) rfl fun a889 E890 => ?_)
    clear E888
    refine wl_cons (wl_val E890 rfl (rn_move E890 rfl rfl) rfl fun a891 E892 => ?_)
    clear E890
    obtain ⟨u893, hy894, h⟩ := bs h
    obtain ⟨q895, hq896, hr897⟩ := rn_idx (K := k_api_Process) (P := Try.prog) (o := ⟨some 31, .indexAddr 26 (.tmp 29) (.tmp 30), 0, "", #[], none⟩) E892 rfl Try.underlying26 ti38 rfl rfl (H.readL (i := 8) rfl) hy894
    refine wl_cons (wl_val E892 rfl ((hr897 _)) rfl fun a898 E899 => ?_)
    clear E892
    refine wl_cons (wl_in rfl (rn_callC (args := [.pointer (some ⟨g828, 0, none⟩), .pointer (some q895)]) (cap := [.pointer (some ⟨g807, 0, none⟩)]) (all := [.pointer (some ⟨g828, 0, none⟩), .pointer (some q895), .pointer (some ⟨g807, 0, none⟩)]) E899 rfl rfl rfl Try.func57 nm57 rfl rfl) Try.func57 rfl fun a900 he901 => ?_)
    have E902 : Env 11 a900 (enumA 0 [.pointer (some ⟨g828, 0, none⟩), .pointer (some q895), .pointer (some ⟨g807, 0, none⟩)]) := he901 ▸ Env.init Try.ntmps57 rfl
    clear he901
    refine wp_seq_k fun _ hK903 => ?_
    refine wp_region_lit ?_
    refine wl_cons (wl_val E902 rfl (rn_assign E902 rfl rfl) rfl fun a904 E905 => ?_)
    clear E902
    refine wl_cons (wl_val E905 rfl (rn_assign E905 rfl rfl) rfl fun a906 E907 => ?_)
    clear E905
    refine wl_nil ?_
    refine then_normal (hK903 _ _ ?_)
    refine wp_seq_k fun _ hK908 => ?_
    refine wp_region_lit ?_
    refine wl_cons (wl_val E907 rfl (rn_ld1 (i := 4) E907 H rfl Try.underlying68 rfl rfl rfl rfl) rfl fun a909 E910 => ?_)
    clear E907
    refine wl_cons (wl_val E910 rfl (rn_move E910 rfl rfl) rfl fun a911 E912 => ?_)
    clear E910
    refine wl_cons (wl_val E912 rfl (rn_move E912 rfl rfl) rfl fun a913 E914 => ?_)
    clear E912
    refine wl_cons (wl_in rfl (rn_callC (args := [.pointer (some ⟨g828, 0, none⟩), .pointer (some q895)]) (cap := [.pointer (some ⟨g782, 0, none⟩)]) (all := [.pointer (some ⟨g828, 0, none⟩), .pointer (some q895), .pointer (some ⟨g782, 0, none⟩)]) E914 rfl rfl rfl Try.func35 nm35 rfl rfl) Try.func35 rfl fun a915 he916 => ?_)
    have E917 : Env 19 a915 (enumA 0 [.pointer (some ⟨g828, 0, none⟩), .pointer (some q895), .pointer (some ⟨g782, 0, none⟩)]) := he916 ▸ Env.init Try.ntmps35 rfl
    clear he916
    refine wp_seq_k fun _ hK918 => ?_
    refine wp_region_lit ?_
    refine wl_cons (wl_val E917 rfl (rn_assign E917 rfl rfl) rfl fun a919 E920 => ?_)
    clear E917
    refine wl_nil ?_
    refine then_normal (hK918 _ _ ?_)
    refine wp_seq_k fun _ hK921 => ?_
    refine wa_begin mixed (fun w_ => True) [] [12] H rfl fun w922 H' => ?_
    clear H; have H := H'; clear H'
    refine wa_take (i := 0) E920 rfl (by kernel_rfl) (panic_then panic_body) rfl (fun w_ => rn_move E920 rfl rfl) rfl fun a923 E924 => ?_
    clear E920
    replace H : St w Nil Z w922 [vw (kSlice 38 k_api_Process) a0.Processes [.slice p773 a0.Processes.length c774]] [[blk g778 [.int .i64 a0.Next, .int .i64 a0.NextSession, .slice p773 a0.Processes.length c774] 28], [blk g782 [.int .i64 a2] 3], [blk g786 [.int .i64 0, .int .i64 0, .slice none 0 0] 28], [blk g803 [.int .i64 a0.Next, .int .i64 a0.NextSession, .slice p773 a0.Processes.length c774] 28], [blk g807 [.func (.func 35) #[] #[.pointer (some ⟨g782, 0, none⟩)]] 68], [blk g811 [.int .i64 0, .int .i64 0, .slice none 0 0] 28], [blk g828 [.int .i64 y873.Next, .int .i64 y873.NextSession, .slice p875 y873.Processes.length c876] 28], [blk g832 [.int .i64 0, .int .i64 0, .slice none 0 0] 28], [row 38 k_api_Process y873.Processes (.slice p875 y873.Processes.length c876)]] := H
    refine wa_take (i := 1) E924 rfl (by kernel_rfl) (panic_then panic_body) rfl (fun w_ => rn_nilCheck E924 rfl rfl) rfl fun a925 E926 => ?_
    clear E924
    obtain ⟨q927, hq928, hr929⟩ := rn_fieldAddrI (P := Try.prog) (o := ⟨some 8, .fieldAddr 38 (.tmp 7) 3, 0, "", #[], none⟩) E926 rfl Try.underlying38 rfl ti3 rfl hq896 (off' := 3) rfl
    refine wa_take (i := 2) E926 rfl (by kernel_rfl) (panic_then panic_body) rfl (fun w_ => (hr929 _)) rfl fun a930 E931 => ?_
    clear E926
    obtain ⟨⟨p933, c934⟩, H', hc932⟩ := St.openL k_api_Process_opens H (k := 8) rfl hy894
    replace H := H'; clear H'
    refine wa_takeU (i := 3) E931 rfl (by kernel_rfl) (by kernel_rfl) (panic_then panic_body) rfl (rn_loadI1 E931 rfl Try.underlying3 rfl rfl hq928 hc932 rfl) rfl fun a935 E936 => ?_
    clear E931
    refine wa_take (i := 4) E936 rfl (by kernel_rfl) (panic_then panic_body) rfl (fun w_ => rn_int E936 rfl rfl rfl rfl) rfl fun a937 E938 => ?_
    clear E936
    refine wa_takeU (i := 5) E938 rfl (by kernel_rfl) (by kernel_rfl) (panic_then panic_body) rfl (rn_ld1 (i := 1) E938 H rfl Try.underlying3 rfl rfl rfl rfl) rfl fun a939 E940 => ?_
    clear E938
    refine wa_take (i := 6) E940 rfl (by kernel_rfl) (panic_then panic_body) rfl (fun w_ => rn_move E940 rfl rfl) rfl fun a941 E942 => ?_
    clear E940
    refine wa_take (i := 7) E942 rfl (by kernel_rfl) (panic_then panic_body) rfl (fun w_ => rn_nilCheck E942 rfl rfl) rfl fun a943 E944 => ?_
    clear E942
    obtain ⟨q945, hq946, hr947⟩ := rn_fieldAddrI (P := Try.prog) (o := ⟨some 14, .fieldAddr 38 (.tmp 13) 2, 0, "", #[], none⟩) E944 rfl Try.underlying38 rfl ti3 rfl hq896 (off' := 2) rfl
    refine wa_take (i := 8) E944 rfl (by kernel_rfl) (panic_then panic_body) rfl (fun w_ => (hr947 _)) rfl fun a948 E949 => ?_
    clear E944
    refine wa_take (i := 9) E949 rfl (by kernel_rfl) (panic_then panic_body) rfl (fun w_ => rn_move E949 rfl rfl) rfl fun a950 E951 => ?_
    clear E949
    refine wa_take (i := 10) E951 rfl (by kernel_rfl) (panic_then panic_body) rfl (fun w_ => rn_nilCheck E951 rfl rfl) rfl fun a952 E953 => ?_
    clear E951
    obtain ⟨q954, hq955, hr956⟩ := rn_fieldAddrI (P := Try.prog) (o := ⟨some 17, .fieldAddr 38 (.tmp 16) 3, 0, "", #[], none⟩) E953 rfl Try.underlying38 rfl ti3 rfl hq896 (off' := 3) rfl
    refine wa_take (i := 11) E953 rfl (by kernel_rfl) (panic_then panic_body) rfl (fun w_ => (hr956 _)) rfl fun a957 E958 => ?_
    clear E953
    refine wa_only (i := 12) rfl (by kernel_rfl) (by kernel_rfl) (wl_in rfl (rn_callC (args := [.bool (u893.EUID == 0), .int .i64 a2, .pointer (some q945), .pointer (some q954)]) (cap := []) (all := [.bool (u893.EUID == 0), .int .i64 a2, .pointer (some q945), .pointer (some q954)]) E958 rfl rfl rfl Try.func36 nm36 rfl rfl) Try.func36 rfl fun a959 he960 => ?_)
    have E961 : Env 38 a959 (enumA 0 [.bool (u893.EUID == 0), .int .i64 a2, .pointer (some q945), .pointer (some q954)]) := he960 ▸ Env.init Try.ntmps36 rfl
    clear he960
    refine wp_seq_k fun _ hK962 => ?_
    refine wp_region_lit ?_
    refine wl_cons (wl_val E961 rfl (rn_assign E961 rfl rfl) rfl fun a963 E964 => ?_)
    clear E961
    refine wl_nil ?_
    refine then_normal (hK962 _ _ ?_)
    refine wp_seq_k fun _ hK965 => ?_
    refine wp_block ?_
    refine wp_seq_k fun _ hK966 => ?_
    refine wp_region_lit ?_
    refine wl_cons (wl_val E964 rfl (rn_move E964 rfl rfl) rfl fun a967 E968 => ?_)
    clear E964
    refine wl_cons (wl_buildSlice (ps := [(0, .int .i64 a2)]) (cs := [.int .i64 a2]) E968 H rfl Try.underlying22 ti3 rfl rfl (by kernel_rfl) rfl fun g969 w970 a971 E972 H' => ?_)
    clear H E968; have H := H'; clear H'
    replace H := H.toRow (i := 9) (K := (kInt .i64)) (xs := [a2]) rfl rfl (fun Z hA => ⟨[.int .i64 a2], _, rfl, rfl, rfl⟩)
    obtain ⟨y974, hy975, h⟩ := bs h
    refine wl_cons (wl_funFlat E972 H rfl (rn_call (args := [.int .i64 4294967294, .slice (some ⟨g969, 0, none⟩) 1 1]) E972 rfl rfl rfl Try.func39 nm39 rfl) rfl (by exact fun Z S hA hL => ⟨(Holds_row hL (i := 9) rfl), trivial⟩) (C39 4294967294 [a2] (some ⟨g969, 0, none⟩) 1 _ _ hy975) C39_flat ?_)
    rintro v_ A_ N_ w978 a976 ⟨rfl, rfl, rfl⟩ E977 H'
    replace H := H'; clear H' E972
    refine wl_cons (wl_val E977 rfl (rn_not E977 rfl rfl) rfl fun a979 E980 => ?_)
    clear E977
    refine wl_cons (wl_val E980 rfl (rn_assign E980 rfl rfl) rfl fun a981 E982 => ?_)
    clear E980
    refine wl_nil ?_
    refine then_normal (hK966 _ _ ?_)
    rcases Bool.eq_false_or_eq_true y974 with hb983 | hb983
    · replace h := itT hb983 h
      refine wc_F E982 rfl (congrArg Bool.not hb983) ?_
      refine wp_seq_k fun _ hK984 => ?_
      refine wp_region_lit ?_
      refine wl_cons (wl_val E982 rfl (rn_move E982 rfl rfl) rfl fun a985 E986 => ?_)
      clear E982
      refine wl_cons (wl_val E986 rfl (rn_assign E986 rfl rfl) rfl fun a987 E988 => ?_)
      clear E986
      refine wl_nil ?_
      refine then_normal (hK984 _ _ ?_)
      rcases Bool.eq_false_or_eq_true (u893.EUID == 0) with hb989 | hb989
      · replace h := itT hb989 h
        refine wc_T E988 rfl hb989 ?_
        refine wp_region_lit ?_
        refine wl_cons (wl_val E988 rfl (rn_move E988 rfl rfl) rfl fun a990 E991 => ?_)
        clear E988
        refine wl_cons (wl_val E991 rfl (rn_move E991 rfl rfl) rfl fun a992 E993 => ?_)
        clear E991
        refine wl_cons (wl_val E993 rfl (rn_move E993 rfl rfl) rfl fun a994 E995 => ?_)
        clear E993
        refine wl_cons (wl_val E995 rfl (rn_move E995 rfl rfl) rfl fun a996 E997 => ?_)
        clear E995
        refine wl_cons (wl_val E997 rfl (rn_nilCheck E997 rfl rfl) rfl fun a998 E999 => ?_)
        clear E997
        refine wl_cons (wl_storeI (k := 8) (vs := [.int .i64 a2]) (u' := (⟨u893.PID, u893.PPID, a2, u893.EUID, u893.GID, u893.EGID, u893.AUID, u893.Session, u893.Cwd, u893.Comm, u893.Exe, u893.Open, u893.Audited⟩ : api_Process)) E999 H rfl rfl rfl rfl hq946 hy894 ti3 rfl rfl rfl (by decide) (fun Z cs hA hR => by obtain ⟨⟨p1000, c1001⟩, rfl, hB⟩ := k_api_Process_opens hR; exact k_api_Process_shuts (x := (⟨u893.PID, u893.PPID, a2, u893.EUID, u893.GID, u893.EGID, u893.AUID, u893.Session, u893.Cwd, u893.Comm, u893.Exe, u893.Open, u893.Audited⟩ : api_Process)) (t := (p1000, c1001)) ⟨(argHolds_get hB (k := 0) rfl), trivial⟩) rfl fun w1004 a1002 E1003 H' => ?_)
        clear H E999; have H := H'; clear H'
        replace H : St w Nil Z w1004 [vw (kSlice 38 k_api_Process) a0.Processes [.slice p773 a0.Processes.length c774], vw (kSlice 81 k_api_Descriptor) u893.Open [.slice p933 u893.Open.length c934]] [[blk g778 [.int .i64 a0.Next, .int .i64 a0.NextSession, .slice p773 a0.Processes.length c774] 28], [blk g782 [.int .i64 a2] 3], [blk g786 [.int .i64 0, .int .i64 0, .slice none 0 0] 28], [blk g803 [.int .i64 a0.Next, .int .i64 a0.NextSession, .slice p773 a0.Processes.length c774] 28], [blk g807 [.func (.func 35) #[] #[.pointer (some ⟨g782, 0, none⟩)]] 68], [blk g811 [.int .i64 0, .int .i64 0, .slice none 0 0] 28], [blk g828 [.int .i64 y873.Next, .int .i64 y873.NextSession, .slice p875 y873.Processes.length c876] 28], [blk g832 [.int .i64 0, .int .i64 0, .slice none 0 0] 28], [row 38 k_api_Process (y873.Processes.set y848.1.toNat (⟨u893.PID, u893.PPID, a2, u893.EUID, u893.GID, u893.EGID, u893.AUID, u893.Session, u893.Cwd, u893.Comm, u893.Exe, u893.Open, u893.Audited⟩ : api_Process)) (.slice p875 y873.Processes.length c876)], [row 3 (kInt .i64) [a2] (.slice (some ⟨g969, 0, none⟩) 1 1)]] := H
        refine wl_cons (wl_val E1003 rfl (rn_nilCheck E1003 rfl rfl) rfl fun a1005 E1006 => ?_)
        clear E1003
        obtain ⟨u1007, hy1008, h⟩ := bs h
        refine wl_cons (wl_storeI (k := 8) (vs := [.int .i64 a2]) (u' := (⟨u1007.PID, u1007.PPID, u1007.UID, a2, u1007.GID, u1007.EGID, u1007.AUID, u1007.Session, u1007.Cwd, u1007.Comm, u1007.Exe, u1007.Open, u1007.Audited⟩ : api_Process)) E1006 H rfl rfl rfl rfl hq955 hy1008 ti3 rfl rfl rfl (by decide) (fun Z cs hA hR => by obtain ⟨⟨p1009, c1010⟩, rfl, hB⟩ := k_api_Process_opens hR; exact k_api_Process_shuts (x := (⟨u1007.PID, u1007.PPID, u1007.UID, a2, u1007.GID, u1007.EGID, u1007.AUID, u1007.Session, u1007.Cwd, u1007.Comm, u1007.Exe, u1007.Open, u1007.Audited⟩ : api_Process)) (t := (p1009, c1010)) ⟨(argHolds_get hB (k := 0) rfl), trivial⟩) rfl fun w1013 a1011 E1012 H' => ?_)
        clear H E1006; have H := H'; clear H'
        refine wl_nil ?_
        refine block_normal ?_
        refine then_normal (hK965 _ _ ?_)
        refine wp_seq_k fun _ hK1014 => ?_
        refine wp_region_lit ?_
        refine wl_cons (wl_val E1012 rfl (rn_assign E1012 rfl rfl) rfl fun a1015 E1016 => ?_)
        clear E1012
        refine wl_nil ?_
        refine then_normal (hK1014 _ _ ?_)
        refine wp_ret ?_
        refine ?_
        refine wb_ret1 E1016 rfl (rv_tmp E1016 rfl) ⟨_, rfl, ?_⟩
        have E1017 := Env.put E958 (d := 18) rfl (.int .i64 0)
        generalize hae : Act.put _ (some 18) _ = a1018 at E1017 ⊢; clear hae
        refine ⟨fun h_ => (needs_no (by kernel_rfl) h_).elim, ?_⟩
        refine wa_take (i := 13) E1017 rfl (by kernel_rfl) (panic_then panic_body) rfl (fun w_ => rn_assign E1017 rfl rfl) rfl fun a1019 E1020 => ?_
        clear E1017
        refine wa_done (by kernel_rfl) ?_
        have hl1021 : ((y873.Processes.set y848.1.toNat (⟨u893.PID, u893.PPID, a2, u893.EUID, u893.GID, u893.EGID, u893.AUID, u893.Session, u893.Cwd, u893.Comm, u893.Exe, u893.Open, u893.Audited⟩ : api_Process)).set y848.1.toNat (⟨u1007.PID, u1007.PPID, u1007.UID, a2, u1007.GID, u1007.EGID, u1007.AUID, u1007.Session, u1007.Cwd, u1007.Comm, u1007.Exe, u1007.Open, u1007.Audited⟩ : api_Process)).length = y873.Processes.length := by first | exact List.length_set | (simp only [List.length_set])
        replace H : St w Nil Z w1013 [vw (kSlice 38 k_api_Process) a0.Processes [.slice p773 a0.Processes.length c774], vw (kSlice 81 k_api_Descriptor) u893.Open [.slice p933 u893.Open.length c934]] [[blk g778 [.int .i64 a0.Next, .int .i64 a0.NextSession, .slice p773 a0.Processes.length c774] 28], [blk g782 [.int .i64 a2] 3], [blk g786 [.int .i64 0, .int .i64 0, .slice none 0 0] 28], [blk g803 [.int .i64 a0.Next, .int .i64 a0.NextSession, .slice p773 a0.Processes.length c774] 28], [blk g807 [.func (.func 35) #[] #[.pointer (some ⟨g782, 0, none⟩)]] 68], [blk g811 [.int .i64 0, .int .i64 0, .slice none 0 0] 28], [blk g828 [.int .i64 y873.Next, .int .i64 y873.NextSession, .slice p875 (((y873.Processes.set y848.1.toNat (⟨u893.PID, u893.PPID, a2, u893.EUID, u893.GID, u893.EGID, u893.AUID, u893.Session, u893.Cwd, u893.Comm, u893.Exe, u893.Open, u893.Audited⟩ : api_Process)).set y848.1.toNat (⟨u1007.PID, u1007.PPID, u1007.UID, a2, u1007.GID, u1007.EGID, u1007.AUID, u1007.Session, u1007.Cwd, u1007.Comm, u1007.Exe, u1007.Open, u1007.Audited⟩ : api_Process)).length) c876] 28], [blk g832 [.int .i64 0, .int .i64 0, .slice none 0 0] 28], [row 38 k_api_Process ((y873.Processes.set y848.1.toNat (⟨u893.PID, u893.PPID, a2, u893.EUID, u893.GID, u893.EGID, u893.AUID, u893.Session, u893.Cwd, u893.Comm, u893.Exe, u893.Open, u893.Audited⟩ : api_Process)).set y848.1.toNat (⟨u1007.PID, u1007.PPID, u1007.UID, a2, u1007.GID, u1007.EGID, u1007.AUID, u1007.Session, u1007.Cwd, u1007.Comm, u1007.Exe, u1007.Open, u1007.Audited⟩ : api_Process)) (.slice p875 (((y873.Processes.set y848.1.toNat (⟨u893.PID, u893.PPID, a2, u893.EUID, u893.GID, u893.EGID, u893.AUID, u893.Session, u893.Cwd, u893.Comm, u893.Exe, u893.Open, u893.Audited⟩ : api_Process)).set y848.1.toNat (⟨u1007.PID, u1007.PPID, u1007.UID, a2, u1007.GID, u1007.EGID, u1007.AUID, u1007.Session, u1007.Cwd, u1007.Comm, u1007.Exe, u1007.Open, u1007.Audited⟩ : api_Process)).length) c876)], [row 3 (kInt .i64) [a2] (.slice (some ⟨g969, 0, none⟩) 1 1)]] := by rw [hl1021]; exact H
        replace E899 : Env 42 a898 [(0, .agg #[.int .i64 a0.Next, .int .i64 a0.NextSession, .slice p773 a0.Processes.length c774]), (1, .int .i64 a1), (2, .func (.func 57) #[] #[.pointer (some ⟨g807, 0, none⟩)]), (3, .pointer (some ⟨g828, 0, none⟩)), (6, .pointer (some ⟨g832, 0, none⟩)), (7, .bool false), (8, .int .i64 0), (9, .bool false), (15, .agg #[.int .i64 a0.Next, .int .i64 a0.NextSession, .slice p773 a0.Processes.length c774]), (16, .int .i64 a1), (17, .tuple #[.int .i64 y848.1, .bool y848.2]), (14, .tuple #[.int .i64 y848.1, .bool y848.2]), (18, .int .i64 y848.1), (19, .bool y848.2), (10, .int .i64 y848.1), (11, .bool y848.2), (20, .bool y848.2), (21, .bool (!y848.2)), (24, .agg #[.int .i64 a0.Next, .int .i64 a0.NextSession, .slice p773 a0.Processes.length c774]), (25, .agg #[.int .i64 y873.Next, .int .i64 y873.NextSession, .slice p875 (((y873.Processes.set y848.1.toNat (⟨u893.PID, u893.PPID, a2, u893.EUID, u893.GID, u893.EGID, u893.AUID, u893.Session, u893.Cwd, u893.Comm, u893.Exe, u893.Open, u893.Audited⟩ : api_Process)).set y848.1.toNat (⟨u1007.PID, u1007.PPID, u1007.UID, a2, u1007.GID, u1007.EGID, u1007.AUID, u1007.Session, u1007.Cwd, u1007.Comm, u1007.Exe, u1007.Open, u1007.Audited⟩ : api_Process)).length) c876]), (27, .func (.func 57) #[] #[.pointer (some ⟨g807, 0, none⟩)]), (28, .pointer (some ⟨g828, 2, none⟩)), (29, .slice p875 (((y873.Processes.set y848.1.toNat (⟨u893.PID, u893.PPID, a2, u893.EUID, u893.GID, u893.EGID, u893.AUID, u893.Session, u893.Cwd, u893.Comm, u893.Exe, u893.Open, u893.Audited⟩ : api_Process)).set y848.1.toNat (⟨u1007.PID, u1007.PPID, u1007.UID, a2, u1007.GID, u1007.EGID, u1007.AUID, u1007.Session, u1007.Cwd, u1007.Comm, u1007.Exe, u1007.Open, u1007.Audited⟩ : api_Process)).length) c876), (30, .int .i64 y848.1), (31, .pointer (some q895))] := by rw [hl1021]; exact E899.pick ⟨rfl, rfl, rfl, rfl, rfl, rfl, rfl, rfl, rfl, rfl, rfl, rfl, rfl, rfl, rfl, rfl, rfl, rfl, rfl, rfl, rfl, rfl, rfl, rfl, rfl, trivial⟩
        clear hl1021
        refine then_normal (hK921 _ _ ?_)
        refine wp_ret ?_
        refine ?_
        refine wb_ret1 E1020 rfl (rv_tmp E1020 rfl) ⟨_, rfl, ?_⟩
        have E1022 := Env.put E914 (d := 10) rfl (.int .i64 0)
        generalize hae : Act.put _ (some 10) _ = a1023 at E1022 ⊢; clear hae
        refine wl_cons (wl_val E1022 rfl (rn_assign E1022 rfl rfl) rfl fun a1024 E1025 => ?_)
        clear E1022
        refine wl_cons (wl_val E1025 rfl (rn_assign E1025 rfl rfl) rfl fun a1026 E1027 => ?_)
        clear E1025
        refine wl_nil ?_
        refine then_normal (hK908 _ _ ?_)
        refine wp_ret ?_
        refine ?_
        refine wb_ret2 E1027 rfl (rv_tmp E1027 rfl) (rv_tmp E1027 rfl) ⟨_, rfl, ?_⟩
        have E1028 := Env.put E899 (d := 32) rfl (.tuple #[.bool true, .int .i64 0])
        generalize hae : Act.put _ (some 32) _ = a1029 at E1028 ⊢; clear hae
        refine wl_cons (wl_val E1028 rfl (rn_move E1028 rfl rfl) rfl fun a1030 E1031 => ?_)
        clear E1028
        refine wl_cons (wl_val E1031 rfl (rn_extract E1031 rfl rfl rfl) rfl fun a1032 E1033 => ?_)
        clear E1031
        refine wl_cons (wl_val E1033 rfl (rn_extract E1033 rfl rfl rfl) rfl fun a1034 E1035 => ?_)
        clear E1033
        refine wl_cons (wl_val E1035 rfl (rn_assign E1035 rfl rfl) rfl fun a1036 E1037 => ?_)
        clear E1035
        refine wl_cons (wl_val E1037 rfl (rn_assign E1037 rfl rfl) rfl fun a1038 E1039 => ?_)
        clear E1037
        refine wl_nil ?_
        refine then_normal (hK884 _ _ ?_)
        refine wp_seq_k fun _ hK1040 => ?_
        refine wp_seq_k fun _ hK1041 => ?_
        refine wp_region_lit ?_
        refine wl_cons (wl_val E1039 rfl (rn_move E1039 rfl rfl) rfl fun a1042 E1043 => ?_)
        clear E1039
        refine wl_cons (wl_val E1043 rfl (rn_int E1043 rfl rfl rfl rfl) rfl fun a1044 E1045 => ?_)
        clear E1043
        refine wl_nil ?_
        refine then_normal (hK1041 _ _ ?_)
        refine wc_F E1045 rfl rfl ?_
        refine wp_skip ?_
        refine then_normal (hK1040 _ _ ?_)
        refine wp_seq_k fun _ hK1046 => ?_
        refine wp_region_lit ?_
        refine wl_cons (wl_val E1045 rfl (rn_ldN (i := 6) [.int .i64 y873.Next, .int .i64 y873.NextSession, .slice p875 (((y873.Processes.set y848.1.toNat (⟨u893.PID, u893.PPID, a2, u893.EUID, u893.GID, u893.EGID, u893.AUID, u893.Session, u893.Cwd, u893.Comm, u893.Exe, u893.Open, u893.Audited⟩ : api_Process)).set y848.1.toNat (⟨u1007.PID, u1007.PPID, u1007.UID, a2, u1007.GID, u1007.EGID, u1007.AUID, u1007.Session, u1007.Cwd, u1007.Comm, u1007.Exe, u1007.Open, u1007.Audited⟩ : api_Process)).length) c876] E1045 H rfl Try.underlying28 rfl ti28 rfl rfl rfl rfl) rfl fun a1047 E1048 => ?_)
        clear E1045
        refine wl_cons (wl_val E1048 rfl (rn_move E1048 rfl rfl) rfl fun a1049 E1050 => ?_)
        clear E1048
        refine wl_cons (wl_store (i := 7) (vs := [.int .i64 y873.Next, .int .i64 y873.NextSession, .slice p875 (((y873.Processes.set y848.1.toNat (⟨u893.PID, u893.PPID, a2, u893.EUID, u893.GID, u893.EGID, u893.AUID, u893.Session, u893.Cwd, u893.Comm, u893.Exe, u893.Open, u893.Audited⟩ : api_Process)).set y848.1.toNat (⟨u1007.PID, u1007.PPID, u1007.UID, a2, u1007.GID, u1007.EGID, u1007.AUID, u1007.Session, u1007.Cwd, u1007.Comm, u1007.Exe, u1007.Open, u1007.Audited⟩ : api_Process)).length) c876]) (cs' := [.int .i64 y873.Next, .int .i64 y873.NextSession, .slice p875 (((y873.Processes.set y848.1.toNat (⟨u893.PID, u893.PPID, a2, u893.EUID, u893.GID, u893.EGID, u893.AUID, u893.Session, u893.Cwd, u893.Comm, u893.Exe, u893.Open, u893.Audited⟩ : api_Process)).set y848.1.toNat (⟨u1007.PID, u1007.PPID, u1007.UID, a2, u1007.GID, u1007.EGID, u1007.AUID, u1007.Session, u1007.Cwd, u1007.Comm, u1007.Exe, u1007.Open, u1007.Audited⟩ : api_Process)).length) c876]) E1050 H rfl rfl rfl rfl ti28 rfl rfl rfl rfl rfl rfl fun w1053 a1051 E1052 H' => ?_)
        clear H E1050; have H := H'; clear H'
        refine wl_cons (wl_val E1052 rfl (rn_assign E1052 rfl rfl) rfl fun a1054 E1055 => ?_)
        clear E1052
        refine wl_cons (wl_val E1055 rfl (rn_assign E1055 rfl rfl) rfl fun a1056 E1057 => ?_)
        clear E1055
        refine wl_nil ?_
        refine then_normal (hK1046 _ _ ?_)
        refine wp_ret ?_
        refine ?_
        refine wb_ret3 E1057 rfl (rv_cellN (cs := [.int .i64 y873.Next, .int .i64 y873.NextSession, .slice p875 (((y873.Processes.set y848.1.toNat (⟨u893.PID, u893.PPID, a2, u893.EUID, u893.GID, u893.EGID, u893.AUID, u893.Session, u893.Cwd, u893.Comm, u893.Exe, u893.Open, u893.Audited⟩ : api_Process)).set y848.1.toNat (⟨u1007.PID, u1007.PPID, u1007.UID, a2, u1007.GID, u1007.EGID, u1007.AUID, u1007.Session, u1007.Cwd, u1007.Comm, u1007.Exe, u1007.Open, u1007.Audited⟩ : api_Process)).length) c876]) E1057 rfl Try.underlying28 rfl ti28 (H.get (i := 7) (k := 0) rfl rfl) rfl) (rv_tmp E1057 rfl) (rv_tmp E1057 rfl) ⟨_, rfl, ?_⟩
        have E1058 := Env.put E823 (d := 14) rfl (.tuple #[.agg #[.int .i64 y873.Next, .int .i64 y873.NextSession, .slice p875 (((y873.Processes.set y848.1.toNat (⟨u893.PID, u893.PPID, a2, u893.EUID, u893.GID, u893.EGID, u893.AUID, u893.Session, u893.Cwd, u893.Comm, u893.Exe, u893.Open, u893.Audited⟩ : api_Process)).set y848.1.toNat (⟨u1007.PID, u1007.PPID, u1007.UID, a2, u1007.GID, u1007.EGID, u1007.AUID, u1007.Session, u1007.Cwd, u1007.Comm, u1007.Exe, u1007.Open, u1007.Audited⟩ : api_Process)).length) c876], .bool true, .int .i64 0])
        generalize hae : Act.put _ (some 14) _ = a1059 at E1058 ⊢; clear hae
        refine wl_cons (wl_val E1058 rfl (rn_move E1058 rfl rfl) rfl fun a1060 E1061 => ?_)
        clear E1058
        refine wl_cons (wl_val E1061 rfl (rn_extract E1061 rfl rfl rfl) rfl fun a1062 E1063 => ?_)
        clear E1061
        refine wl_cons (wl_val E1063 rfl (rn_extract E1063 rfl rfl rfl) rfl fun a1064 E1065 => ?_)
        clear E1063
        refine wl_cons (wl_val E1065 rfl (rn_extract E1065 rfl rfl rfl) rfl fun a1066 E1067 => ?_)
        clear E1065
        refine wl_cons (wl_store (i := 3) (vs := [.int .i64 y873.Next, .int .i64 y873.NextSession, .slice p875 (((y873.Processes.set y848.1.toNat (⟨u893.PID, u893.PPID, a2, u893.EUID, u893.GID, u893.EGID, u893.AUID, u893.Session, u893.Cwd, u893.Comm, u893.Exe, u893.Open, u893.Audited⟩ : api_Process)).set y848.1.toNat (⟨u1007.PID, u1007.PPID, u1007.UID, a2, u1007.GID, u1007.EGID, u1007.AUID, u1007.Session, u1007.Cwd, u1007.Comm, u1007.Exe, u1007.Open, u1007.Audited⟩ : api_Process)).length) c876]) (cs' := [.int .i64 y873.Next, .int .i64 y873.NextSession, .slice p875 (((y873.Processes.set y848.1.toNat (⟨u893.PID, u893.PPID, a2, u893.EUID, u893.GID, u893.EGID, u893.AUID, u893.Session, u893.Cwd, u893.Comm, u893.Exe, u893.Open, u893.Audited⟩ : api_Process)).set y848.1.toNat (⟨u1007.PID, u1007.PPID, u1007.UID, a2, u1007.GID, u1007.EGID, u1007.AUID, u1007.Session, u1007.Cwd, u1007.Comm, u1007.Exe, u1007.Open, u1007.Audited⟩ : api_Process)).length) c876]) E1067 H rfl rfl rfl rfl ti28 rfl rfl rfl rfl rfl rfl fun w1070 a1068 E1069 H' => ?_)
        clear H E1067; have H := H'; clear H'
        replace H : St w Nil Z w1070 [vw (kSlice 38 k_api_Process) a0.Processes [.slice p773 a0.Processes.length c774], vw (kSlice 81 k_api_Descriptor) u893.Open [.slice p933 u893.Open.length c934]] [[blk g778 [.int .i64 a0.Next, .int .i64 a0.NextSession, .slice p773 a0.Processes.length c774] 28], [blk g782 [.int .i64 a2] 3], [blk g786 [.int .i64 0, .int .i64 0, .slice none 0 0] 28], [blk g803 [.int .i64 y873.Next, .int .i64 y873.NextSession, .slice p875 (((y873.Processes.set y848.1.toNat (⟨u893.PID, u893.PPID, a2, u893.EUID, u893.GID, u893.EGID, u893.AUID, u893.Session, u893.Cwd, u893.Comm, u893.Exe, u893.Open, u893.Audited⟩ : api_Process)).set y848.1.toNat (⟨u1007.PID, u1007.PPID, u1007.UID, a2, u1007.GID, u1007.EGID, u1007.AUID, u1007.Session, u1007.Cwd, u1007.Comm, u1007.Exe, u1007.Open, u1007.Audited⟩ : api_Process)).length) c876] 28], [blk g807 [.func (.func 35) #[] #[.pointer (some ⟨g782, 0, none⟩)]] 68], [blk g811 [.int .i64 0, .int .i64 0, .slice none 0 0] 28], [blk g828 [.int .i64 y873.Next, .int .i64 y873.NextSession, .slice p875 (((y873.Processes.set y848.1.toNat (⟨u893.PID, u893.PPID, a2, u893.EUID, u893.GID, u893.EGID, u893.AUID, u893.Session, u893.Cwd, u893.Comm, u893.Exe, u893.Open, u893.Audited⟩ : api_Process)).set y848.1.toNat (⟨u1007.PID, u1007.PPID, u1007.UID, a2, u1007.GID, u1007.EGID, u1007.AUID, u1007.Session, u1007.Cwd, u1007.Comm, u1007.Exe, u1007.Open, u1007.Audited⟩ : api_Process)).length) c876] 28], [blk g832 [.int .i64 y873.Next, .int .i64 y873.NextSession, .slice p875 (((y873.Processes.set y848.1.toNat (⟨u893.PID, u893.PPID, a2, u893.EUID, u893.GID, u893.EGID, u893.AUID, u893.Session, u893.Cwd, u893.Comm, u893.Exe, u893.Open, u893.Audited⟩ : api_Process)).set y848.1.toNat (⟨u1007.PID, u1007.PPID, u1007.UID, a2, u1007.GID, u1007.EGID, u1007.AUID, u1007.Session, u1007.Cwd, u1007.Comm, u1007.Exe, u1007.Open, u1007.Audited⟩ : api_Process)).length) c876] 28], [row 38 k_api_Process ((y873.Processes.set y848.1.toNat (⟨u893.PID, u893.PPID, a2, u893.EUID, u893.GID, u893.EGID, u893.AUID, u893.Session, u893.Cwd, u893.Comm, u893.Exe, u893.Open, u893.Audited⟩ : api_Process)).set y848.1.toNat (⟨u1007.PID, u1007.PPID, u1007.UID, a2, u1007.GID, u1007.EGID, u1007.AUID, u1007.Session, u1007.Cwd, u1007.Comm, u1007.Exe, u1007.Open, u1007.Audited⟩ : api_Process)) (.slice p875 (((y873.Processes.set y848.1.toNat (⟨u893.PID, u893.PPID, a2, u893.EUID, u893.GID, u893.EGID, u893.AUID, u893.Session, u893.Cwd, u893.Comm, u893.Exe, u893.Open, u893.Audited⟩ : api_Process)).set y848.1.toNat (⟨u1007.PID, u1007.PPID, u1007.UID, a2, u1007.GID, u1007.EGID, u1007.AUID, u1007.Session, u1007.Cwd, u1007.Comm, u1007.Exe, u1007.Open, u1007.Audited⟩ : api_Process)).length) c876)], [row 3 (kInt .i64) [a2] (.slice (some ⟨g969, 0, none⟩) 1 1)]] := H
        refine wl_cons (wl_val E1069 rfl (rn_assign E1069 rfl rfl) rfl fun a1071 E1072 => ?_)
        clear E1069
        refine wl_cons (wl_val E1072 rfl (rn_assign E1072 rfl rfl) rfl fun a1073 E1074 => ?_)
        clear E1072
        refine wl_nil ?_
        refine then_normal (hK817 _ _ ?_)
        refine wp_seq_k fun _ hK1075 => ?_
        refine wp_region_lit ?_
        refine wl_cons (wl_val E1074 rfl (rn_ldN (i := 3) [.int .i64 y873.Next, .int .i64 y873.NextSession, .slice p875 (((y873.Processes.set y848.1.toNat (⟨u893.PID, u893.PPID, a2, u893.EUID, u893.GID, u893.EGID, u893.AUID, u893.Session, u893.Cwd, u893.Comm, u893.Exe, u893.Open, u893.Audited⟩ : api_Process)).set y848.1.toNat (⟨u1007.PID, u1007.PPID, u1007.UID, a2, u1007.GID, u1007.EGID, u1007.AUID, u1007.Session, u1007.Cwd, u1007.Comm, u1007.Exe, u1007.Open, u1007.Audited⟩ : api_Process)).length) c876] E1074 H rfl Try.underlying28 rfl ti28 rfl rfl rfl rfl) rfl fun a1076 E1077 => ?_)
        clear E1074
        refine wl_cons (wl_val E1077 rfl (rn_move E1077 rfl rfl) rfl fun a1078 E1079 => ?_)
        clear E1077
        refine wl_cons (wl_store (i := 5) (vs := [.int .i64 y873.Next, .int .i64 y873.NextSession, .slice p875 (((y873.Processes.set y848.1.toNat (⟨u893.PID, u893.PPID, a2, u893.EUID, u893.GID, u893.EGID, u893.AUID, u893.Session, u893.Cwd, u893.Comm, u893.Exe, u893.Open, u893.Audited⟩ : api_Process)).set y848.1.toNat (⟨u1007.PID, u1007.PPID, u1007.UID, a2, u1007.GID, u1007.EGID, u1007.AUID, u1007.Session, u1007.Cwd, u1007.Comm, u1007.Exe, u1007.Open, u1007.Audited⟩ : api_Process)).length) c876]) (cs' := [.int .i64 y873.Next, .int .i64 y873.NextSession, .slice p875 (((y873.Processes.set y848.1.toNat (⟨u893.PID, u893.PPID, a2, u893.EUID, u893.GID, u893.EGID, u893.AUID, u893.Session, u893.Cwd, u893.Comm, u893.Exe, u893.Open, u893.Audited⟩ : api_Process)).set y848.1.toNat (⟨u1007.PID, u1007.PPID, u1007.UID, a2, u1007.GID, u1007.EGID, u1007.AUID, u1007.Session, u1007.Cwd, u1007.Comm, u1007.Exe, u1007.Open, u1007.Audited⟩ : api_Process)).length) c876]) E1079 H rfl rfl rfl rfl ti28 rfl rfl rfl rfl rfl rfl fun w1082 a1080 E1081 H' => ?_)
        clear H E1079; have H := H'; clear H'
        refine wl_cons (wl_val E1081 rfl (rn_assign E1081 rfl rfl) rfl fun a1083 E1084 => ?_)
        clear E1081
        refine wl_nil ?_
        refine then_normal (hK1075 _ _ ?_)
        refine wp_ret ?_
        refine ?_
        refine wb_ret2 E1084 rfl (rv_cellN (cs := [.int .i64 y873.Next, .int .i64 y873.NextSession, .slice p875 (((y873.Processes.set y848.1.toNat (⟨u893.PID, u893.PPID, a2, u893.EUID, u893.GID, u893.EGID, u893.AUID, u893.Session, u893.Cwd, u893.Comm, u893.Exe, u893.Open, u893.Audited⟩ : api_Process)).set y848.1.toNat (⟨u1007.PID, u1007.PPID, u1007.UID, a2, u1007.GID, u1007.EGID, u1007.AUID, u1007.Session, u1007.Cwd, u1007.Comm, u1007.Exe, u1007.Open, u1007.Audited⟩ : api_Process)).length) c876]) E1084 rfl Try.underlying28 rfl ti28 (H.get (i := 5) (k := 0) rfl rfl) rfl) (rv_tmp E1084 rfl) ⟨_, rfl, ?_⟩
        have E1085 := Env.put E798 (d := 11) rfl (.tuple #[.agg #[.int .i64 y873.Next, .int .i64 y873.NextSession, .slice p875 (((y873.Processes.set y848.1.toNat (⟨u893.PID, u893.PPID, a2, u893.EUID, u893.GID, u893.EGID, u893.AUID, u893.Session, u893.Cwd, u893.Comm, u893.Exe, u893.Open, u893.Audited⟩ : api_Process)).set y848.1.toNat (⟨u1007.PID, u1007.PPID, u1007.UID, a2, u1007.GID, u1007.EGID, u1007.AUID, u1007.Session, u1007.Cwd, u1007.Comm, u1007.Exe, u1007.Open, u1007.Audited⟩ : api_Process)).length) c876], .int .i64 0])
        generalize hae : Act.put _ (some 11) _ = a1086 at E1085 ⊢; clear hae
        refine wl_cons (wl_val E1085 rfl (rn_extract E1085 rfl rfl rfl) rfl fun a1087 E1088 => ?_)
        clear E1085
        refine wl_cons (wl_val E1088 rfl (rn_extract E1088 rfl rfl rfl) rfl fun a1089 E1090 => ?_)
        clear E1088
        refine wl_cons (wl_store (i := 2) (vs := [.int .i64 y873.Next, .int .i64 y873.NextSession, .slice p875 (((y873.Processes.set y848.1.toNat (⟨u893.PID, u893.PPID, a2, u893.EUID, u893.GID, u893.EGID, u893.AUID, u893.Session, u893.Cwd, u893.Comm, u893.Exe, u893.Open, u893.Audited⟩ : api_Process)).set y848.1.toNat (⟨u1007.PID, u1007.PPID, u1007.UID, a2, u1007.GID, u1007.EGID, u1007.AUID, u1007.Session, u1007.Cwd, u1007.Comm, u1007.Exe, u1007.Open, u1007.Audited⟩ : api_Process)).length) c876]) (cs' := [.int .i64 y873.Next, .int .i64 y873.NextSession, .slice p875 (((y873.Processes.set y848.1.toNat (⟨u893.PID, u893.PPID, a2, u893.EUID, u893.GID, u893.EGID, u893.AUID, u893.Session, u893.Cwd, u893.Comm, u893.Exe, u893.Open, u893.Audited⟩ : api_Process)).set y848.1.toNat (⟨u1007.PID, u1007.PPID, u1007.UID, a2, u1007.GID, u1007.EGID, u1007.AUID, u1007.Session, u1007.Cwd, u1007.Comm, u1007.Exe, u1007.Open, u1007.Audited⟩ : api_Process)).length) c876]) E1090 H rfl rfl rfl rfl ti28 rfl rfl rfl rfl rfl rfl fun w1093 a1091 E1092 H' => ?_)
        clear H E1090; have H := H'; clear H'
        refine wl_cons (wl_val E1092 rfl (rn_assign E1092 rfl rfl) rfl fun a1094 E1095 => ?_)
        clear E1092
        refine wl_nil ?_
        refine then_normal (hK792 _ _ ?_)
        refine wp_ret ?_
        refine ?_
        obtain rfl := Option.some.inj h
        replace H : St w Nil Z w1093 [vw (kSlice 38 k_api_Process) a0.Processes [.slice p773 a0.Processes.length c774], vw (kSlice 81 k_api_Descriptor) u893.Open [.slice p933 u893.Open.length c934]] [[blk g778 [.int .i64 a0.Next, .int .i64 a0.NextSession, .slice p773 a0.Processes.length c774] 28], [blk g782 [.int .i64 a2] 3], [blk g786 [.int .i64 y873.Next, .int .i64 y873.NextSession, .slice p875 (((y873.Processes.set y848.1.toNat (⟨u893.PID, u893.PPID, a2, u893.EUID, u893.GID, u893.EGID, u893.AUID, u893.Session, u893.Cwd, u893.Comm, u893.Exe, u893.Open, u893.Audited⟩ : api_Process)).set y848.1.toNat (⟨u1007.PID, u1007.PPID, u1007.UID, a2, u1007.GID, u1007.EGID, u1007.AUID, u1007.Session, u1007.Cwd, u1007.Comm, u1007.Exe, u1007.Open, u1007.Audited⟩ : api_Process)).length) c876] 28], [blk g803 [.int .i64 y873.Next, .int .i64 y873.NextSession, .slice p875 (((y873.Processes.set y848.1.toNat (⟨u893.PID, u893.PPID, a2, u893.EUID, u893.GID, u893.EGID, u893.AUID, u893.Session, u893.Cwd, u893.Comm, u893.Exe, u893.Open, u893.Audited⟩ : api_Process)).set y848.1.toNat (⟨u1007.PID, u1007.PPID, u1007.UID, a2, u1007.GID, u1007.EGID, u1007.AUID, u1007.Session, u1007.Cwd, u1007.Comm, u1007.Exe, u1007.Open, u1007.Audited⟩ : api_Process)).length) c876] 28], [blk g807 [.func (.func 35) #[] #[.pointer (some ⟨g782, 0, none⟩)]] 68], [blk g811 [.int .i64 y873.Next, .int .i64 y873.NextSession, .slice p875 (((y873.Processes.set y848.1.toNat (⟨u893.PID, u893.PPID, a2, u893.EUID, u893.GID, u893.EGID, u893.AUID, u893.Session, u893.Cwd, u893.Comm, u893.Exe, u893.Open, u893.Audited⟩ : api_Process)).set y848.1.toNat (⟨u1007.PID, u1007.PPID, u1007.UID, a2, u1007.GID, u1007.EGID, u1007.AUID, u1007.Session, u1007.Cwd, u1007.Comm, u1007.Exe, u1007.Open, u1007.Audited⟩ : api_Process)).length) c876] 28], [blk g828 [.int .i64 y873.Next, .int .i64 y873.NextSession, .slice p875 (((y873.Processes.set y848.1.toNat (⟨u893.PID, u893.PPID, a2, u893.EUID, u893.GID, u893.EGID, u893.AUID, u893.Session, u893.Cwd, u893.Comm, u893.Exe, u893.Open, u893.Audited⟩ : api_Process)).set y848.1.toNat (⟨u1007.PID, u1007.PPID, u1007.UID, a2, u1007.GID, u1007.EGID, u1007.AUID, u1007.Session, u1007.Cwd, u1007.Comm, u1007.Exe, u1007.Open, u1007.Audited⟩ : api_Process)).length) c876] 28], [blk g832 [.int .i64 y873.Next, .int .i64 y873.NextSession, .slice p875 (((y873.Processes.set y848.1.toNat (⟨u893.PID, u893.PPID, a2, u893.EUID, u893.GID, u893.EGID, u893.AUID, u893.Session, u893.Cwd, u893.Comm, u893.Exe, u893.Open, u893.Audited⟩ : api_Process)).set y848.1.toNat (⟨u1007.PID, u1007.PPID, u1007.UID, a2, u1007.GID, u1007.EGID, u1007.AUID, u1007.Session, u1007.Cwd, u1007.Comm, u1007.Exe, u1007.Open, u1007.Audited⟩ : api_Process)).length) c876] 28], [row 38 k_api_Process ((y873.Processes.set y848.1.toNat (⟨u893.PID, u893.PPID, a2, u893.EUID, u893.GID, u893.EGID, u893.AUID, u893.Session, u893.Cwd, u893.Comm, u893.Exe, u893.Open, u893.Audited⟩ : api_Process)).set y848.1.toNat (⟨u1007.PID, u1007.PPID, u1007.UID, a2, u1007.GID, u1007.EGID, u1007.AUID, u1007.Session, u1007.Cwd, u1007.Comm, u1007.Exe, u1007.Open, u1007.Audited⟩ : api_Process)) (.slice p875 (((y873.Processes.set y848.1.toNat (⟨u893.PID, u893.PPID, a2, u893.EUID, u893.GID, u893.EGID, u893.AUID, u893.Session, u893.Cwd, u893.Comm, u893.Exe, u893.Open, u893.Audited⟩ : api_Process)).set y848.1.toNat (⟨u1007.PID, u1007.PPID, u1007.UID, a2, u1007.GID, u1007.EGID, u1007.AUID, u1007.Session, u1007.Cwd, u1007.Comm, u1007.Exe, u1007.Open, u1007.Audited⟩ : api_Process)).length) c876)], [row 3 (kInt .i64) [a2] (.slice (some ⟨g969, 0, none⟩) 1 1)]] := H
        refine wb_ret2 E1095 rfl (rv_cellN (cs := [.int .i64 y873.Next, .int .i64 y873.NextSession, .slice p875 (((y873.Processes.set y848.1.toNat (⟨u893.PID, u893.PPID, a2, u893.EUID, u893.GID, u893.EGID, u893.AUID, u893.Session, u893.Cwd, u893.Comm, u893.Exe, u893.Open, u893.Audited⟩ : api_Process)).set y848.1.toNat (⟨u1007.PID, u1007.PPID, u1007.UID, a2, u1007.GID, u1007.EGID, u1007.AUID, u1007.Session, u1007.Cwd, u1007.Comm, u1007.Exe, u1007.Open, u1007.Audited⟩ : api_Process)).length) c876]) E1095 rfl Try.underlying28 rfl ti28 (H.get (i := 2) (k := 0) rfl rfl) rfl) (rv_tmp E1095 rfl) ?_
        exact ⟨_, rfl, [], [[row 38 k_api_Process ((y873.Processes.set y848.1.toNat (⟨u893.PID, u893.PPID, a2, u893.EUID, u893.GID, u893.EGID, u893.AUID, u893.Session, u893.Cwd, u893.Comm, u893.Exe, u893.Open, u893.Audited⟩ : api_Process)).set y848.1.toNat (⟨u1007.PID, u1007.PPID, u1007.UID, a2, u1007.GID, u1007.EGID, u1007.AUID, u1007.Session, u1007.Cwd, u1007.Comm, u1007.Exe, u1007.Open, u1007.Audited⟩ : api_Process)) (.slice p875 (((y873.Processes.set y848.1.toNat (⟨u893.PID, u893.PPID, a2, u893.EUID, u893.GID, u893.EGID, u893.AUID, u893.Session, u893.Cwd, u893.Comm, u893.Exe, u893.Open, u893.Audited⟩ : api_Process)).set y848.1.toNat (⟨u1007.PID, u1007.PPID, u1007.UID, a2, u1007.GID, u1007.EGID, u1007.AUID, u1007.Session, u1007.Cwd, u1007.Comm, u1007.Exe, u1007.Open, u1007.Audited⟩ : api_Process)).length) c876)]], ⟨_, _, rfl, rfl, rfl⟩, H.leave (fun Z hA => trivial) (fun Z S hA hL => Holds_sub (.cons _ (.cons _ (.cons _ (.cons _ (.cons _ (.cons _ (.cons _ (.cons _ (.cons_cons _ (.cons _ .slnil)))))))))) hL)⟩
      · replace h := itF hb989 h
        refine wc_F E988 rfl hb989 ?_
        refine wp_seq_k fun _ hK1096 => ?_
        refine wp_region_lit ?_
        refine wl_cons (wl_val E988 rfl (rn_move E988 rfl rfl) rfl fun a1097 E1098 => ?_)
        clear E988
        refine wl_cons (wl_val E1098 rfl (rn_move E1098 rfl rfl) rfl fun a1099 E1100 => ?_)
        clear E1098
        refine wl_cons (wl_val E1100 rfl (rn_nilCheck E1100 rfl rfl) rfl fun a1101 E1102 => ?_)
        clear E1100
        obtain ⟨⟨p1104, c1105⟩, H', hc1103⟩ := St.openL k_api_Process_opens H (k := 8) rfl hy894
        replace H := H'; clear H'
        refine wl_cons (wl_val E1102 rfl (rn_loadI1 E1102 rfl Try.underlying3 rfl rfl hq946 hc1103 rfl) rfl fun a1106 E1107 => ?_)
        clear E1102
        refine wl_cons (wl_val E1107 rfl (rn_int E1107 rfl rfl rfl rfl) rfl fun a1108 E1109 => ?_)
        clear E1107
        refine wl_cons (wl_val E1109 rfl (rn_move E1109 rfl rfl) rfl fun a1110 E1111 => ?_)
        clear E1109
        rcases Bool.eq_false_or_eq_true (a2 == u893.UID) with hb1112 | hb1112
        · replace h := itT hb1112 h
          refine wl_cons (wl_pass E1111 (E1111.unwanted rfl rfl rfl hb1112) rfl fun a1113 E1114 => ?_)
          clear E1111
          refine wl_cons (wl_pass E1114 (E1114.unwanted rfl rfl rfl hb1112) rfl fun a1115 E1116 => ?_)
          clear E1114
          refine wl_cons (wl_pass E1116 (E1116.unwanted rfl rfl rfl hb1112) rfl fun a1117 E1118 => ?_)
          clear E1116
          refine wl_cons (wl_pass E1118 (E1118.unwanted rfl rfl rfl hb1112) rfl fun a1119 E1120 => ?_)
          clear E1118
          refine wl_cons (wl_pass E1120 (E1120.unwanted rfl rfl rfl hb1112) rfl fun a1121 E1122 => ?_)
          clear E1120
          refine wl_cons (wl_val E1122 rfl (rn_pickT E1122 rfl rfl hb1112 rfl) rfl fun a1123 E1124 => ?_)
          clear E1122
          refine wl_cons (wl_val E1124 rfl (rn_assign E1124 rfl rfl) rfl fun a1125 E1126 => ?_)
          clear E1124
          refine wl_nil ?_
          refine then_normal (hK1096 _ _ ?_)
          refine wc_T E1126 rfl rfl ?_
          refine wp_region_lit ?_
          refine wl_cons (wl_val E1126 rfl (rn_move E1126 rfl rfl) rfl fun a1127 E1128 => ?_)
          clear E1126
          refine wl_cons (wl_val E1128 rfl (rn_move E1128 rfl rfl) rfl fun a1129 E1130 => ?_)
          clear E1128
          refine wl_cons (wl_val E1130 rfl (rn_nilCheck E1130 rfl rfl) rfl fun a1131 E1132 => ?_)
          clear E1130
          refine wl_cons (wl_storeI (k := 8) (vs := [.int .i64 a2]) (u' := (⟨u893.PID, u893.PPID, u893.UID, a2, u893.GID, u893.EGID, u893.AUID, u893.Session, u893.Cwd, u893.Comm, u893.Exe, u893.Open, u893.Audited⟩ : api_Process)) E1132 H rfl rfl rfl rfl hq955 hy894 ti3 rfl rfl rfl (by decide) (fun Z cs hA hR => by obtain ⟨⟨p1133, c1134⟩, rfl, hB⟩ := k_api_Process_opens hR; exact k_api_Process_shuts (x := (⟨u893.PID, u893.PPID, u893.UID, a2, u893.GID, u893.EGID, u893.AUID, u893.Session, u893.Cwd, u893.Comm, u893.Exe, u893.Open, u893.Audited⟩ : api_Process)) (t := (p1133, c1134)) ⟨(argHolds_get hB (k := 0) rfl), trivial⟩) rfl fun w1137 a1135 E1136 H' => ?_)
          clear H E1132; have H := H'; clear H'
          replace H : St w Nil Z w1137 [vw (kSlice 38 k_api_Process) a0.Processes [.slice p773 a0.Processes.length c774], vw (kSlice 81 k_api_Descriptor) u893.Open [.slice p933 u893.Open.length c934], vw (kSlice 81 k_api_Descriptor) u893.Open [.slice p1104 u893.Open.length c1105]] [[blk g778 [.int .i64 a0.Next, .int .i64 a0.NextSession, .slice p773 a0.Processes.length c774] 28], [blk g782 [.int .i64 a2] 3], [blk g786 [.int .i64 0, .int .i64 0, .slice none 0 0] 28], [blk g803 [.int .i64 a0.Next, .int .i64 a0.NextSession, .slice p773 a0.Processes.length c774] 28], [blk g807 [.func (.func 35) #[] #[.pointer (some ⟨g782, 0, none⟩)]] 68], [blk g811 [.int .i64 0, .int .i64 0, .slice none 0 0] 28], [blk g828 [.int .i64 y873.Next, .int .i64 y873.NextSession, .slice p875 y873.Processes.length c876] 28], [blk g832 [.int .i64 0, .int .i64 0, .slice none 0 0] 28], [row 38 k_api_Process (y873.Processes.set y848.1.toNat (⟨u893.PID, u893.PPID, u893.UID, a2, u893.GID, u893.EGID, u893.AUID, u893.Session, u893.Cwd, u893.Comm, u893.Exe, u893.Open, u893.Audited⟩ : api_Process)) (.slice p875 y873.Processes.length c876)], [row 3 (kInt .i64) [a2] (.slice (some ⟨g969, 0, none⟩) 1 1)]] := H
          refine wl_nil ?_
          refine block_normal ?_
          refine then_normal (hK965 _ _ ?_)
          refine wp_seq_k fun _ hK1138 => ?_
          refine wp_region_lit ?_
          refine wl_cons (wl_val E1136 rfl (rn_assign E1136 rfl rfl) rfl fun a1139 E1140 => ?_)
          clear E1136
          refine wl_nil ?_
          refine then_normal (hK1138 _ _ ?_)
          refine wp_ret ?_
          refine ?_
          refine wb_ret1 E1140 rfl (rv_tmp E1140 rfl) ⟨_, rfl, ?_⟩
          have E1141 := Env.put E958 (d := 18) rfl (.int .i64 0)
          generalize hae : Act.put _ (some 18) _ = a1142 at E1141 ⊢; clear hae
          refine ⟨fun h_ => (needs_no (by kernel_rfl) h_).elim, ?_⟩
          refine wa_take (i := 13) E1141 rfl (by kernel_rfl) (panic_then panic_body) rfl (fun w_ => rn_assign E1141 rfl rfl) rfl fun a1143 E1144 => ?_
          clear E1141
          refine wa_done (by kernel_rfl) ?_
          have hl1145 : (y873.Processes.set y848.1.toNat (⟨u893.PID, u893.PPID, u893.UID, a2, u893.GID, u893.EGID, u893.AUID, u893.Session, u893.Cwd, u893.Comm, u893.Exe, u893.Open, u893.Audited⟩ : api_Process)).length = y873.Processes.length := by first | exact List.length_set | (simp only [List.length_set])
          replace H : St w Nil Z w1137 [vw (kSlice 38 k_api_Process) a0.Processes [.slice p773 a0.Processes.length c774], vw (kSlice 81 k_api_Descriptor) u893.Open [.slice p933 u893.Open.length c934], vw (kSlice 81 k_api_Descriptor) u893.Open [.slice p1104 u893.Open.length c1105]] [[blk g778 [.int .i64 a0.Next, .int .i64 a0.NextSession, .slice p773 a0.Processes.length c774] 28], [blk g782 [.int .i64 a2] 3], [blk g786 [.int .i64 0, .int .i64 0, .slice none 0 0] 28], [blk g803 [.int .i64 a0.Next, .int .i64 a0.NextSession, .slice p773 a0.Processes.length c774] 28], [blk g807 [.func (.func 35) #[] #[.pointer (some ⟨g782, 0, none⟩)]] 68], [blk g811 [.int .i64 0, .int .i64 0, .slice none 0 0] 28], [blk g828 [.int .i64 y873.Next, .int .i64 y873.NextSession, .slice p875 ((y873.Processes.set y848.1.toNat (⟨u893.PID, u893.PPID, u893.UID, a2, u893.GID, u893.EGID, u893.AUID, u893.Session, u893.Cwd, u893.Comm, u893.Exe, u893.Open, u893.Audited⟩ : api_Process)).length) c876] 28], [blk g832 [.int .i64 0, .int .i64 0, .slice none 0 0] 28], [row 38 k_api_Process (y873.Processes.set y848.1.toNat (⟨u893.PID, u893.PPID, u893.UID, a2, u893.GID, u893.EGID, u893.AUID, u893.Session, u893.Cwd, u893.Comm, u893.Exe, u893.Open, u893.Audited⟩ : api_Process)) (.slice p875 ((y873.Processes.set y848.1.toNat (⟨u893.PID, u893.PPID, u893.UID, a2, u893.GID, u893.EGID, u893.AUID, u893.Session, u893.Cwd, u893.Comm, u893.Exe, u893.Open, u893.Audited⟩ : api_Process)).length) c876)], [row 3 (kInt .i64) [a2] (.slice (some ⟨g969, 0, none⟩) 1 1)]] := by rw [hl1145]; exact H
          replace E899 : Env 42 a898 [(0, .agg #[.int .i64 a0.Next, .int .i64 a0.NextSession, .slice p773 a0.Processes.length c774]), (1, .int .i64 a1), (2, .func (.func 57) #[] #[.pointer (some ⟨g807, 0, none⟩)]), (3, .pointer (some ⟨g828, 0, none⟩)), (6, .pointer (some ⟨g832, 0, none⟩)), (7, .bool false), (8, .int .i64 0), (9, .bool false), (15, .agg #[.int .i64 a0.Next, .int .i64 a0.NextSession, .slice p773 a0.Processes.length c774]), (16, .int .i64 a1), (17, .tuple #[.int .i64 y848.1, .bool y848.2]), (14, .tuple #[.int .i64 y848.1, .bool y848.2]), (18, .int .i64 y848.1), (19, .bool y848.2), (10, .int .i64 y848.1), (11, .bool y848.2), (20, .bool y848.2), (21, .bool (!y848.2)), (24, .agg #[.int .i64 a0.Next, .int .i64 a0.NextSession, .slice p773 a0.Processes.length c774]), (25, .agg #[.int .i64 y873.Next, .int .i64 y873.NextSession, .slice p875 ((y873.Processes.set y848.1.toNat (⟨u893.PID, u893.PPID, u893.UID, a2, u893.GID, u893.EGID, u893.AUID, u893.Session, u893.Cwd, u893.Comm, u893.Exe, u893.Open, u893.Audited⟩ : api_Process)).length) c876]), (27, .func (.func 57) #[] #[.pointer (some ⟨g807, 0, none⟩)]), (28, .pointer (some ⟨g828, 2, none⟩)), (29, .slice p875 ((y873.Processes.set y848.1.toNat (⟨u893.PID, u893.PPID, u893.UID, a2, u893.GID, u893.EGID, u893.AUID, u893.Session, u893.Cwd, u893.Comm, u893.Exe, u893.Open, u893.Audited⟩ : api_Process)).length) c876), (30, .int .i64 y848.1), (31, .pointer (some q895))] := by rw [hl1145]; exact E899.pick ⟨rfl, rfl, rfl, rfl, rfl, rfl, rfl, rfl, rfl, rfl, rfl, rfl, rfl, rfl, rfl, rfl, rfl, rfl, rfl, rfl, rfl, rfl, rfl, rfl, rfl, trivial⟩
          clear hl1145
          refine then_normal (hK921 _ _ ?_)
          refine wp_ret ?_
          refine ?_
          refine wb_ret1 E1144 rfl (rv_tmp E1144 rfl) ⟨_, rfl, ?_⟩
          have E1146 := Env.put E914 (d := 10) rfl (.int .i64 0)
          generalize hae : Act.put _ (some 10) _ = a1147 at E1146 ⊢; clear hae
          refine wl_cons (wl_val E1146 rfl (rn_assign E1146 rfl rfl) rfl fun a1148 E1149 => ?_)
          clear E1146
          refine wl_cons (wl_val E1149 rfl (rn_assign E1149 rfl rfl) rfl fun a1150 E1151 => ?_)
          clear E1149
          refine wl_nil ?_
          refine then_normal (hK908 _ _ ?_)
          refine wp_ret ?_
          refine ?_
          refine wb_ret2 E1151 rfl (rv_tmp E1151 rfl) (rv_tmp E1151 rfl) ⟨_, rfl, ?_⟩
          have E1152 := Env.put E899 (d := 32) rfl (.tuple #[.bool true, .int .i64 0])
          generalize hae : Act.put _ (some 32) _ = a1153 at E1152 ⊢; clear hae
          refine wl_cons (wl_val E1152 rfl (rn_move E1152 rfl rfl) rfl fun a1154 E1155 => ?_)
          clear E1152
          refine wl_cons (wl_val E1155 rfl (rn_extract E1155 rfl rfl rfl) rfl fun a1156 E1157 => ?_)
          clear E1155
          refine wl_cons (wl_val E1157 rfl (rn_extract E1157 rfl rfl rfl) rfl fun a1158 E1159 => ?_)
          clear E1157
          refine wl_cons (wl_val E1159 rfl (rn_assign E1159 rfl rfl) rfl fun a1160 E1161 => ?_)
          clear E1159
          refine wl_cons (wl_val E1161 rfl (rn_assign E1161 rfl rfl) rfl fun a1162 E1163 => ?_)
          clear E1161
          refine wl_nil ?_
          refine then_normal (hK884 _ _ ?_)
          refine wp_seq_k fun _ hK1164 => ?_
          refine wp_seq_k fun _ hK1165 => ?_
          refine wp_region_lit ?_
          refine wl_cons (wl_val E1163 rfl (rn_move E1163 rfl rfl) rfl fun a1166 E1167 => ?_)
          clear E1163
          refine wl_cons (wl_val E1167 rfl (rn_int E1167 rfl rfl rfl rfl) rfl fun a1168 E1169 => ?_)
          clear E1167
          refine wl_nil ?_
          refine then_normal (hK1165 _ _ ?_)
          refine wc_F E1169 rfl rfl ?_
          refine wp_skip ?_
          refine then_normal (hK1164 _ _ ?_)
          refine wp_seq_k fun _ hK1170 => ?_
          refine wp_region_lit ?_
          refine wl_cons (wl_val E1169 rfl (rn_ldN (i := 6) [.int .i64 y873.Next, .int .i64 y873.NextSession, .slice p875 ((y873.Processes.set y848.1.toNat (⟨u893.PID, u893.PPID, u893.UID, a2, u893.GID, u893.EGID, u893.AUID, u893.Session, u893.Cwd, u893.Comm, u893.Exe, u893.Open, u893.Audited⟩ : api_Process)).length) c876] E1169 H rfl Try.underlying28 rfl ti28 rfl rfl rfl rfl) rfl fun a1171 E1172 => ?_)
          clear E1169
          refine wl_cons (wl_val E1172 rfl (rn_move E1172 rfl rfl) rfl fun a1173 E1174 => ?_)
          clear E1172
          refine wl_cons (wl_store (i := 7) (vs := [.int .i64 y873.Next, .int .i64 y873.NextSession, .slice p875 ((y873.Processes.set y848.1.toNat (⟨u893.PID, u893.PPID, u893.UID, a2, u893.GID, u893.EGID, u893.AUID, u893.Session, u893.Cwd, u893.Comm, u893.Exe, u893.Open, u893.Audited⟩ : api_Process)).length) c876]) (cs' := [.int .i64 y873.Next, .int .i64 y873.NextSession, .slice p875 ((y873.Processes.set y848.1.toNat (⟨u893.PID, u893.PPID, u893.UID, a2, u893.GID, u893.EGID, u893.AUID, u893.Session, u893.Cwd, u893.Comm, u893.Exe, u893.Open, u893.Audited⟩ : api_Process)).length) c876]) E1174 H rfl rfl rfl rfl ti28 rfl rfl rfl rfl rfl rfl fun w1177 a1175 E1176 H' => ?_)
          clear H E1174; have H := H'; clear H'
          refine wl_cons (wl_val E1176 rfl (rn_assign E1176 rfl rfl) rfl fun a1178 E1179 => ?_)
          clear E1176
          refine wl_cons (wl_val E1179 rfl (rn_assign E1179 rfl rfl) rfl fun a1180 E1181 => ?_)
          clear E1179
          refine wl_nil ?_
          refine then_normal (hK1170 _ _ ?_)
          refine wp_ret ?_
          refine ?_
          refine wb_ret3 E1181 rfl (rv_cellN (cs := [.int .i64 y873.Next, .int .i64 y873.NextSession, .slice p875 ((y873.Processes.set y848.1.toNat (⟨u893.PID, u893.PPID, u893.UID, a2, u893.GID, u893.EGID, u893.AUID, u893.Session, u893.Cwd, u893.Comm, u893.Exe, u893.Open, u893.Audited⟩ : api_Process)).length) c876]) E1181 rfl Try.underlying28 rfl ti28 (H.get (i := 7) (k := 0) rfl rfl) rfl) (rv_tmp E1181 rfl) (rv_tmp E1181 rfl) ⟨_, rfl, ?_⟩
          have E1182 := Env.put E823 (d := 14) rfl (.tuple #[.agg #[.int .i64 y873.Next, .int .i64 y873.NextSession, .slice p875 ((y873.Processes.set y848.1.toNat (⟨u893.PID, u893.PPID, u893.UID, a2, u893.GID, u893.EGID, u893.AUID, u893.Session, u893.Cwd, u893.Comm, u893.Exe, u893.Open, u893.Audited⟩ : api_Process)).length) c876], .bool true, .int .i64 0])
          generalize hae : Act.put _ (some 14) _ = a1183 at E1182 ⊢; clear hae
          refine wl_cons (wl_val E1182 rfl (rn_move E1182 rfl rfl) rfl fun a1184 E1185 => ?_)
          clear E1182
          refine wl_cons (wl_val E1185 rfl (rn_extract E1185 rfl rfl rfl) rfl fun a1186 E1187 => ?_)
          clear E1185
          refine wl_cons (wl_val E1187 rfl (rn_extract E1187 rfl rfl rfl) rfl fun a1188 E1189 => ?_)
          clear E1187
          refine wl_cons (wl_val E1189 rfl (rn_extract E1189 rfl rfl rfl) rfl fun a1190 E1191 => ?_)
          clear E1189
          refine wl_cons (wl_store (i := 3) (vs := [.int .i64 y873.Next, .int .i64 y873.NextSession, .slice p875 ((y873.Processes.set y848.1.toNat (⟨u893.PID, u893.PPID, u893.UID, a2, u893.GID, u893.EGID, u893.AUID, u893.Session, u893.Cwd, u893.Comm, u893.Exe, u893.Open, u893.Audited⟩ : api_Process)).length) c876]) (cs' := [.int .i64 y873.Next, .int .i64 y873.NextSession, .slice p875 ((y873.Processes.set y848.1.toNat (⟨u893.PID, u893.PPID, u893.UID, a2, u893.GID, u893.EGID, u893.AUID, u893.Session, u893.Cwd, u893.Comm, u893.Exe, u893.Open, u893.Audited⟩ : api_Process)).length) c876]) E1191 H rfl rfl rfl rfl ti28 rfl rfl rfl rfl rfl rfl fun w1194 a1192 E1193 H' => ?_)
          clear H E1191; have H := H'; clear H'
          refine wl_cons (wl_val E1193 rfl (rn_assign E1193 rfl rfl) rfl fun a1195 E1196 => ?_)
          clear E1193
          refine wl_cons (wl_val E1196 rfl (rn_assign E1196 rfl rfl) rfl fun a1197 E1198 => ?_)
          clear E1196
          refine wl_nil ?_
          refine then_normal (hK817 _ _ ?_)
          refine wp_seq_k fun _ hK1199 => ?_
          refine wp_region_lit ?_
          refine wl_cons (wl_val E1198 rfl (rn_ldN (i := 3) [.int .i64 y873.Next, .int .i64 y873.NextSession, .slice p875 ((y873.Processes.set y848.1.toNat (⟨u893.PID, u893.PPID, u893.UID, a2, u893.GID, u893.EGID, u893.AUID, u893.Session, u893.Cwd, u893.Comm, u893.Exe, u893.Open, u893.Audited⟩ : api_Process)).length) c876] E1198 H rfl Try.underlying28 rfl ti28 rfl rfl rfl rfl) rfl fun a1200 E1201 => ?_)
          clear E1198
          refine wl_cons (wl_val E1201 rfl (rn_move E1201 rfl rfl) rfl fun a1202 E1203 => ?_)
          clear E1201
          refine wl_cons (wl_store (i := 5) (vs := [.int .i64 y873.Next, .int .i64 y873.NextSession, .slice p875 ((y873.Processes.set y848.1.toNat (⟨u893.PID, u893.PPID, u893.UID, a2, u893.GID, u893.EGID, u893.AUID, u893.Session, u893.Cwd, u893.Comm, u893.Exe, u893.Open, u893.Audited⟩ : api_Process)).length) c876]) (cs' := [.int .i64 y873.Next, .int .i64 y873.NextSession, .slice p875 ((y873.Processes.set y848.1.toNat (⟨u893.PID, u893.PPID, u893.UID, a2, u893.GID, u893.EGID, u893.AUID, u893.Session, u893.Cwd, u893.Comm, u893.Exe, u893.Open, u893.Audited⟩ : api_Process)).length) c876]) E1203 H rfl rfl rfl rfl ti28 rfl rfl rfl rfl rfl rfl fun w1206 a1204 E1205 H' => ?_)
          clear H E1203; have H := H'; clear H'
          replace H : St w Nil Z w1206 [vw (kSlice 38 k_api_Process) a0.Processes [.slice p773 a0.Processes.length c774], vw (kSlice 81 k_api_Descriptor) u893.Open [.slice p933 u893.Open.length c934], vw (kSlice 81 k_api_Descriptor) u893.Open [.slice p1104 u893.Open.length c1105]] [[blk g778 [.int .i64 a0.Next, .int .i64 a0.NextSession, .slice p773 a0.Processes.length c774] 28], [blk g782 [.int .i64 a2] 3], [blk g786 [.int .i64 0, .int .i64 0, .slice none 0 0] 28], [blk g803 [.int .i64 y873.Next, .int .i64 y873.NextSession, .slice p875 ((y873.Processes.set y848.1.toNat (⟨u893.PID, u893.PPID, u893.UID, a2, u893.GID, u893.EGID, u893.AUID, u893.Session, u893.Cwd, u893.Comm, u893.Exe, u893.Open, u893.Audited⟩ : api_Process)).length) c876] 28], [blk g807 [.func (.func 35) #[] #[.pointer (some ⟨g782, 0, none⟩)]] 68], [blk g811 [.int .i64 y873.Next, .int .i64 y873.NextSession, .slice p875 ((y873.Processes.set y848.1.toNat (⟨u893.PID, u893.PPID, u893.UID, a2, u893.GID, u893.EGID, u893.AUID, u893.Session, u893.Cwd, u893.Comm, u893.Exe, u893.Open, u893.Audited⟩ : api_Process)).length) c876] 28], [blk g828 [.int .i64 y873.Next, .int .i64 y873.NextSession, .slice p875 ((y873.Processes.set y848.1.toNat (⟨u893.PID, u893.PPID, u893.UID, a2, u893.GID, u893.EGID, u893.AUID, u893.Session, u893.Cwd, u893.Comm, u893.Exe, u893.Open, u893.Audited⟩ : api_Process)).length) c876] 28], [blk g832 [.int .i64 y873.Next, .int .i64 y873.NextSession, .slice p875 ((y873.Processes.set y848.1.toNat (⟨u893.PID, u893.PPID, u893.UID, a2, u893.GID, u893.EGID, u893.AUID, u893.Session, u893.Cwd, u893.Comm, u893.Exe, u893.Open, u893.Audited⟩ : api_Process)).length) c876] 28], [row 38 k_api_Process (y873.Processes.set y848.1.toNat (⟨u893.PID, u893.PPID, u893.UID, a2, u893.GID, u893.EGID, u893.AUID, u893.Session, u893.Cwd, u893.Comm, u893.Exe, u893.Open, u893.Audited⟩ : api_Process)) (.slice p875 ((y873.Processes.set y848.1.toNat (⟨u893.PID, u893.PPID, u893.UID, a2, u893.GID, u893.EGID, u893.AUID, u893.Session, u893.Cwd, u893.Comm, u893.Exe, u893.Open, u893.Audited⟩ : api_Process)).length) c876)], [row 3 (kInt .i64) [a2] (.slice (some ⟨g969, 0, none⟩) 1 1)]] := H
          refine wl_cons (wl_val E1205 rfl (rn_assign E1205 rfl rfl) rfl fun a1207 E1208 => ?_)
          clear E1205
          refine wl_nil ?_
          refine then_normal (hK1199 _ _ ?_)
          refine wp_ret ?_
          refine ?_
          refine wb_ret2 E1208 rfl (rv_cellN (cs := [.int .i64 y873.Next, .int .i64 y873.NextSession, .slice p875 ((y873.Processes.set y848.1.toNat (⟨u893.PID, u893.PPID, u893.UID, a2, u893.GID, u893.EGID, u893.AUID, u893.Session, u893.Cwd, u893.Comm, u893.Exe, u893.Open, u893.Audited⟩ : api_Process)).length) c876]) E1208 rfl Try.underlying28 rfl ti28 (H.get (i := 5) (k := 0) rfl rfl) rfl) (rv_tmp E1208 rfl) ⟨_, rfl, ?_⟩
          have E1209 := Env.put E798 (d := 11) rfl (.tuple #[.agg #[.int .i64 y873.Next, .int .i64 y873.NextSession, .slice p875 ((y873.Processes.set y848.1.toNat (⟨u893.PID, u893.PPID, u893.UID, a2, u893.GID, u893.EGID, u893.AUID, u893.Session, u893.Cwd, u893.Comm, u893.Exe, u893.Open, u893.Audited⟩ : api_Process)).length) c876], .int .i64 0])
          generalize hae : Act.put _ (some 11) _ = a1210 at E1209 ⊢; clear hae
          refine wl_cons (wl_val E1209 rfl (rn_extract E1209 rfl rfl rfl) rfl fun a1211 E1212 => ?_)
          clear E1209
          refine wl_cons (wl_val E1212 rfl (rn_extract E1212 rfl rfl rfl) rfl fun a1213 E1214 => ?_)
          clear E1212
          refine wl_cons (wl_store (i := 2) (vs := [.int .i64 y873.Next, .int .i64 y873.NextSession, .slice p875 ((y873.Processes.set y848.1.toNat (⟨u893.PID, u893.PPID, u893.UID, a2, u893.GID, u893.EGID, u893.AUID, u893.Session, u893.Cwd, u893.Comm, u893.Exe, u893.Open, u893.Audited⟩ : api_Process)).length) c876]) (cs' := [.int .i64 y873.Next, .int .i64 y873.NextSession, .slice p875 ((y873.Processes.set y848.1.toNat (⟨u893.PID, u893.PPID, u893.UID, a2, u893.GID, u893.EGID, u893.AUID, u893.Session, u893.Cwd, u893.Comm, u893.Exe, u893.Open, u893.Audited⟩ : api_Process)).length) c876]) E1214 H rfl rfl rfl rfl ti28 rfl rfl rfl rfl rfl rfl fun w1217 a1215 E1216 H' => ?_)
          clear H E1214; have H := H'; clear H'
          refine wl_cons (wl_val E1216 rfl (rn_assign E1216 rfl rfl) rfl fun a1218 E1219 => ?_)
          clear E1216
          refine wl_nil ?_
          refine then_normal (hK792 _ _ ?_)
          refine wp_ret ?_
          refine ?_
          obtain rfl := Option.some.inj h
          replace H : St w Nil Z w1217 [vw (kSlice 38 k_api_Process) a0.Processes [.slice p773 a0.Processes.length c774], vw (kSlice 81 k_api_Descriptor) u893.Open [.slice p933 u893.Open.length c934], vw (kSlice 81 k_api_Descriptor) u893.Open [.slice p1104 u893.Open.length c1105]] [[blk g778 [.int .i64 a0.Next, .int .i64 a0.NextSession, .slice p773 a0.Processes.length c774] 28], [blk g782 [.int .i64 a2] 3], [blk g786 [.int .i64 y873.Next, .int .i64 y873.NextSession, .slice p875 ((y873.Processes.set y848.1.toNat (⟨u893.PID, u893.PPID, u893.UID, a2, u893.GID, u893.EGID, u893.AUID, u893.Session, u893.Cwd, u893.Comm, u893.Exe, u893.Open, u893.Audited⟩ : api_Process)).length) c876] 28], [blk g803 [.int .i64 y873.Next, .int .i64 y873.NextSession, .slice p875 ((y873.Processes.set y848.1.toNat (⟨u893.PID, u893.PPID, u893.UID, a2, u893.GID, u893.EGID, u893.AUID, u893.Session, u893.Cwd, u893.Comm, u893.Exe, u893.Open, u893.Audited⟩ : api_Process)).length) c876] 28], [blk g807 [.func (.func 35) #[] #[.pointer (some ⟨g782, 0, none⟩)]] 68], [blk g811 [.int .i64 y873.Next, .int .i64 y873.NextSession, .slice p875 ((y873.Processes.set y848.1.toNat (⟨u893.PID, u893.PPID, u893.UID, a2, u893.GID, u893.EGID, u893.AUID, u893.Session, u893.Cwd, u893.Comm, u893.Exe, u893.Open, u893.Audited⟩ : api_Process)).length) c876] 28], [blk g828 [.int .i64 y873.Next, .int .i64 y873.NextSession, .slice p875 ((y873.Processes.set y848.1.toNat (⟨u893.PID, u893.PPID, u893.UID, a2, u893.GID, u893.EGID, u893.AUID, u893.Session, u893.Cwd, u893.Comm, u893.Exe, u893.Open, u893.Audited⟩ : api_Process)).length) c876] 28], [blk g832 [.int .i64 y873.Next, .int .i64 y873.NextSession, .slice p875 ((y873.Processes.set y848.1.toNat (⟨u893.PID, u893.PPID, u893.UID, a2, u893.GID, u893.EGID, u893.AUID, u893.Session, u893.Cwd, u893.Comm, u893.Exe, u893.Open, u893.Audited⟩ : api_Process)).length) c876] 28], [row 38 k_api_Process (y873.Processes.set y848.1.toNat (⟨u893.PID, u893.PPID, u893.UID, a2, u893.GID, u893.EGID, u893.AUID, u893.Session, u893.Cwd, u893.Comm, u893.Exe, u893.Open, u893.Audited⟩ : api_Process)) (.slice p875 ((y873.Processes.set y848.1.toNat (⟨u893.PID, u893.PPID, u893.UID, a2, u893.GID, u893.EGID, u893.AUID, u893.Session, u893.Cwd, u893.Comm, u893.Exe, u893.Open, u893.Audited⟩ : api_Process)).length) c876)], [row 3 (kInt .i64) [a2] (.slice (some ⟨g969, 0, none⟩) 1 1)]] := H
          refine wb_ret2 E1219 rfl (rv_cellN (cs := [.int .i64 y873.Next, .int .i64 y873.NextSession, .slice p875 ((y873.Processes.set y848.1.toNat (⟨u893.PID, u893.PPID, u893.UID, a2, u893.GID, u893.EGID, u893.AUID, u893.Session, u893.Cwd, u893.Comm, u893.Exe, u893.Open, u893.Audited⟩ : api_Process)).length) c876]) E1219 rfl Try.underlying28 rfl ti28 (H.get (i := 2) (k := 0) rfl rfl) rfl) (rv_tmp E1219 rfl) ?_
          exact ⟨_, rfl, [], [[row 38 k_api_Process (y873.Processes.set y848.1.toNat (⟨u893.PID, u893.PPID, u893.UID, a2, u893.GID, u893.EGID, u893.AUID, u893.Session, u893.Cwd, u893.Comm, u893.Exe, u893.Open, u893.Audited⟩ : api_Process)) (.slice p875 ((y873.Processes.set y848.1.toNat (⟨u893.PID, u893.PPID, u893.UID, a2, u893.GID, u893.EGID, u893.AUID, u893.Session, u893.Cwd, u893.Comm, u893.Exe, u893.Open, u893.Audited⟩ : api_Process)).length) c876)]], ⟨_, _, rfl, rfl, rfl⟩, H.leave (fun Z hA => trivial) (fun Z S hA hL => Holds_sub (.cons _ (.cons _ (.cons _ (.cons _ (.cons _ (.cons _ (.cons _ (.cons _ (.cons_cons _ (.cons _ .slnil)))))))))) hL)⟩
        · replace h := itF hb1112 h
          refine wl_cons (wl_val E1111 (E1111.wantedB rfl rfl rfl hb1112) (rn_move E1111 rfl rfl) rfl fun a1220 E1221 => ?_)
          clear E1111
          refine wl_cons (wl_val E1221 (E1221.wantedB rfl rfl rfl hb1112) (rn_move E1221 rfl rfl) rfl fun a1222 E1223 => ?_)
          clear E1221
          refine wl_cons (wl_val E1223 (E1223.wantedB rfl rfl rfl hb1112) (rn_nilCheck E1223 rfl rfl) rfl fun a1224 E1225 => ?_)
          clear E1223
          obtain ⟨⟨p1227, c1228⟩, H', hc1226⟩ := St.openL k_api_Process_opens H (k := 8) rfl hy894
          replace H := H'; clear H'
          refine wl_cons (wl_val E1225 (E1225.wantedB rfl rfl rfl hb1112) (rn_loadI1 E1225 rfl Try.underlying3 rfl rfl hq955 hc1226 rfl) rfl fun a1229 E1230 => ?_)
          clear E1225
          refine wl_cons (wl_val E1230 (E1230.wantedB rfl rfl rfl hb1112) (rn_int E1230 rfl rfl rfl rfl) rfl fun a1231 E1232 => ?_)
          clear E1230
          refine wl_cons (wl_val E1232 rfl (rn_pickF E1232 rfl rfl hb1112 rfl) rfl fun a1233 E1234 => ?_)
          clear E1232
          refine wl_cons (wl_val E1234 rfl (rn_assign E1234 rfl rfl) rfl fun a1235 E1236 => ?_)
          clear E1234
          refine wl_nil ?_
          refine then_normal (hK1096 _ _ ?_)
          rcases Bool.eq_false_or_eq_true (a2 == u893.EUID) with hb1237 | hb1237
          · replace h := itT hb1237 h
            refine wc_T E1236 rfl hb1237 ?_
            refine wp_region_lit ?_
            refine wl_cons (wl_val E1236 rfl (rn_move E1236 rfl rfl) rfl fun a1238 E1239 => ?_)
            clear E1236
            refine wl_cons (wl_val E1239 rfl (rn_move E1239 rfl rfl) rfl fun a1240 E1241 => ?_)
            clear E1239
            refine wl_cons (wl_val E1241 rfl (rn_nilCheck E1241 rfl rfl) rfl fun a1242 E1243 => ?_)
            clear E1241
            refine wl_cons (wl_storeI (k := 8) (vs := [.int .i64 a2]) (u' := (⟨u893.PID, u893.PPID, u893.UID, a2, u893.GID, u893.EGID, u893.AUID, u893.Session, u893.Cwd, u893.Comm, u893.Exe, u893.Open, u893.Audited⟩ : api_Process)) E1243 H rfl rfl rfl rfl hq955 hy894 ti3 rfl rfl rfl (by decide) (fun Z cs hA hR => by obtain ⟨⟨p1244, c1245⟩, rfl, hB⟩ := k_api_Process_opens hR; exact k_api_Process_shuts (x := (⟨u893.PID, u893.PPID, u893.UID, a2, u893.GID, u893.EGID, u893.AUID, u893.Session, u893.Cwd, u893.Comm, u893.Exe, u893.Open, u893.Audited⟩ : api_Process)) (t := (p1244, c1245)) ⟨(argHolds_get hB (k := 0) rfl), trivial⟩) rfl fun w1248 a1246 E1247 H' => ?_)
            clear H E1243; have H := H'; clear H'
            replace H : St w Nil Z w1248 [vw (kSlice 38 k_api_Process) a0.Processes [.slice p773 a0.Processes.length c774], vw (kSlice 81 k_api_Descriptor) u893.Open [.slice p933 u893.Open.length c934], vw (kSlice 81 k_api_Descriptor) u893.Open [.slice p1104 u893.Open.length c1105], vw (kSlice 81 k_api_Descriptor) u893.Open [.slice p1227 u893.Open.length c1228]] [[blk g778 [.int .i64 a0.Next, .int .i64 a0.NextSession, .slice p773 a0.Processes.length c774] 28], [blk g782 [.int .i64 a2] 3], [blk g786 [.int .i64 0, .int .i64 0, .slice none 0 0] 28], [blk g803 [.int .i64 a0.Next, .int .i64 a0.NextSession, .slice p773 a0.Processes.length c774] 28], [blk g807 [.func (.func 35) #[] #[.pointer (some ⟨g782, 0, none⟩)]] 68], [blk g811 [.int .i64 0, .int .i64 0, .slice none 0 0] 28], [blk g828 [.int .i64 y873.Next, .int .i64 y873.NextSession, .slice p875 y873.Processes.length c876] 28], [blk g832 [.int .i64 0, .int .i64 0, .slice none 0 0] 28], [row 38 k_api_Process (y873.Processes.set y848.1.toNat (⟨u893.PID, u893.PPID, u893.UID, a2, u893.GID, u893.EGID, u893.AUID, u893.Session, u893.Cwd, u893.Comm, u893.Exe, u893.Open, u893.Audited⟩ : api_Process)) (.slice p875 y873.Processes.length c876)], [row 3 (kInt .i64) [a2] (.slice (some ⟨g969, 0, none⟩) 1 1)]] := H
            refine wl_nil ?_
            refine block_normal ?_
            refine then_normal (hK965 _ _ ?_)
            refine wp_seq_k fun _ hK1249 => ?_
            refine wp_region_lit ?_
            refine wl_cons (wl_val E1247 rfl (rn_assign E1247 rfl rfl) rfl fun a1250 E1251 => ?_)
            clear E1247
            refine wl_nil ?_
            refine then_normal (hK1249 _ _ ?_)
            refine wp_ret ?_
            refine ?_
            refine wb_ret1 E1251 rfl (rv_tmp E1251 rfl) ⟨_, rfl, ?_⟩
            have E1252 := Env.put E958 (d := 18) rfl (.int .i64 0)
            generalize hae : Act.put _ (some 18) _ = a1253 at E1252 ⊢; clear hae
            refine ⟨fun h_ => (needs_no (by kernel_rfl) h_).elim, ?_⟩
            refine wa_take (i := 13) E1252 rfl (by kernel_rfl) (panic_then panic_body) rfl (fun w_ => rn_assign E1252 rfl rfl) rfl fun a1254 E1255 => ?_
            clear E1252
            refine wa_done (by kernel_rfl) ?_
            have hl1256 : (y873.Processes.set y848.1.toNat (⟨u893.PID, u893.PPID, u893.UID, a2, u893.GID, u893.EGID, u893.AUID, u893.Session, u893.Cwd, u893.Comm, u893.Exe, u893.Open, u893.Audited⟩ : api_Process)).length = y873.Processes.length := by first | exact List.length_set | (simp only [List.length_set])
            replace H : St w Nil Z w1248 [vw (kSlice 38 k_api_Process) a0.Processes [.slice p773 a0.Processes.length c774], vw (kSlice 81 k_api_Descriptor) u893.Open [.slice p933 u893.Open.length c934], vw (kSlice 81 k_api_Descriptor) u893.Open [.slice p1104 u893.Open.length c1105], vw (kSlice 81 k_api_Descriptor) u893.Open [.slice p1227 u893.Open.length c1228]] [[blk g778 [.int .i64 a0.Next, .int .i64 a0.NextSession, .slice p773 a0.Processes.length c774] 28], [blk g782 [.int .i64 a2] 3], [blk g786 [.int .i64 0, .int .i64 0, .slice none 0 0] 28], [blk g803 [.int .i64 a0.Next, .int .i64 a0.NextSession, .slice p773 a0.Processes.length c774] 28], [blk g807 [.func (.func 35) #[] #[.pointer (some ⟨g782, 0, none⟩)]] 68], [blk g811 [.int .i64 0, .int .i64 0, .slice none 0 0] 28], [blk g828 [.int .i64 y873.Next, .int .i64 y873.NextSession, .slice p875 ((y873.Processes.set y848.1.toNat (⟨u893.PID, u893.PPID, u893.UID, a2, u893.GID, u893.EGID, u893.AUID, u893.Session, u893.Cwd, u893.Comm, u893.Exe, u893.Open, u893.Audited⟩ : api_Process)).length) c876] 28], [blk g832 [.int .i64 0, .int .i64 0, .slice none 0 0] 28], [row 38 k_api_Process (y873.Processes.set y848.1.toNat (⟨u893.PID, u893.PPID, u893.UID, a2, u893.GID, u893.EGID, u893.AUID, u893.Session, u893.Cwd, u893.Comm, u893.Exe, u893.Open, u893.Audited⟩ : api_Process)) (.slice p875 ((y873.Processes.set y848.1.toNat (⟨u893.PID, u893.PPID, u893.UID, a2, u893.GID, u893.EGID, u893.AUID, u893.Session, u893.Cwd, u893.Comm, u893.Exe, u893.Open, u893.Audited⟩ : api_Process)).length) c876)], [row 3 (kInt .i64) [a2] (.slice (some ⟨g969, 0, none⟩) 1 1)]] := by rw [hl1256]; exact H
            replace E899 : Env 42 a898 [(0, .agg #[.int .i64 a0.Next, .int .i64 a0.NextSession, .slice p773 a0.Processes.length c774]), (1, .int .i64 a1), (2, .func (.func 57) #[] #[.pointer (some ⟨g807, 0, none⟩)]), (3, .pointer (some ⟨g828, 0, none⟩)), (6, .pointer (some ⟨g832, 0, none⟩)), (7, .bool false), (8, .int .i64 0), (9, .bool false), (15, .agg #[.int .i64 a0.Next, .int .i64 a0.NextSession, .slice p773 a0.Processes.length c774]), (16, .int .i64 a1), (17, .tuple #[.int .i64 y848.1, .bool y848.2]), (14, .tuple #[.int .i64 y848.1, .bool y848.2]), (18, .int .i64 y848.1), (19, .bool y848.2), (10, .int .i64 y848.1), (11, .bool y848.2), (20, .bool y848.2), (21, .bool (!y848.2)), (24, .agg #[.int .i64 a0.Next, .int .i64 a0.NextSession, .slice p773 a0.Processes.length c774]), (25, .agg #[.int .i64 y873.Next, .int .i64 y873.NextSession, .slice p875 ((y873.Processes.set y848.1.toNat (⟨u893.PID, u893.PPID, u893.UID, a2, u893.GID, u893.EGID, u893.AUID, u893.Session, u893.Cwd, u893.Comm, u893.Exe, u893.Open, u893.Audited⟩ : api_Process)).length) c876]), (27, .func (.func 57) #[] #[.pointer (some ⟨g807, 0, none⟩)]), (28, .pointer (some ⟨g828, 2, none⟩)), (29, .slice p875 ((y873.Processes.set y848.1.toNat (⟨u893.PID, u893.PPID, u893.UID, a2, u893.GID, u893.EGID, u893.AUID, u893.Session, u893.Cwd, u893.Comm, u893.Exe, u893.Open, u893.Audited⟩ : api_Process)).length) c876), (30, .int .i64 y848.1), (31, .pointer (some q895))] := by rw [hl1256]; exact E899.pick ⟨rfl, rfl, rfl, rfl, rfl, rfl, rfl, rfl, rfl, rfl, rfl, rfl, rfl, rfl, rfl, rfl, rfl, rfl, rfl, rfl, rfl, rfl, rfl, rfl, rfl, trivial⟩
            clear hl1256
            refine then_normal (hK921 _ _ ?_)
            refine wp_ret ?_
            refine ?_
            refine wb_ret1 E1255 rfl (rv_tmp E1255 rfl) ⟨_, rfl, ?_⟩
            have E1257 := Env.put E914 (d := 10) rfl (.int .i64 0)
            generalize hae : Act.put _ (some 10) _ = a1258 at E1257 ⊢; clear hae
            refine wl_cons (wl_val E1257 rfl (rn_assign E1257 rfl rfl) rfl fun a1259 E1260 => ?_)
            clear E1257
            refine wl_cons (wl_val E1260 rfl (rn_assign E1260 rfl rfl) rfl fun a1261 E1262 => ?_)
            clear E1260
            refine wl_nil ?_
            refine then_normal (hK908 _ _ ?_)
            refine wp_ret ?_
            refine ?_
            refine wb_ret2 E1262 rfl (rv_tmp E1262 rfl) (rv_tmp E1262 rfl) ⟨_, rfl, ?_⟩
            have E1263 := Env.put E899 (d := 32) rfl (.tuple #[.bool true, .int .i64 0])
            generalize hae : Act.put _ (some 32) _ = a1264 at E1263 ⊢; clear hae
            refine wl_cons (wl_val E1263 rfl (rn_move E1263 rfl rfl) rfl fun a1265 E1266 => ?_)
            clear E1263
            refine wl_cons (wl_val E1266 rfl (rn_extract E1266 rfl rfl rfl) rfl fun a1267 E1268 => ?_)
            clear E1266
            refine wl_cons (wl_val E1268 rfl (rn_extract E1268 rfl rfl rfl) rfl fun a1269 E1270 => ?_)
            clear E1268
            refine wl_cons (wl_val E1270 rfl (rn_assign E1270 rfl rfl) rfl fun a1271 E1272 => ?_)
            clear E1270
            refine wl_cons (wl_val E1272 rfl (rn_assign E1272 rfl rfl) rfl fun a1273 E1274 => ?_)
            clear E1272
            refine wl_nil ?_
            refine then_normal (hK884 _ _ ?_)
            refine wp_seq_k fun _ hK1275 => ?_
            refine wp_seq_k fun _ hK1276 => ?_
            refine wp_region_lit ?_
            refine wl_cons (wl_val E1274 rfl (rn_move E1274 rfl rfl) rfl fun a1277 E1278 => ?_)
            clear E1274
            refine wl_cons (wl_val E1278 rfl (rn_int E1278 rfl rfl rfl rfl) rfl fun a1279 E1280 => ?_)
            clear E1278
            refine wl_nil ?_
            refine then_normal (hK1276 _ _ ?_)
            refine wc_F E1280 rfl rfl ?_
            refine wp_skip ?_
            refine then_normal (hK1275 _ _ ?_)
            refine wp_seq_k fun _ hK1281 => ?_
            refine wp_region_lit ?_
            refine wl_cons (wl_val E1280 rfl (rn_ldN (i := 6) [.int .i64 y873.Next, .int .i64 y873.NextSession, .slice p875 ((y873.Processes.set y848.1.toNat (⟨u893.PID, u893.PPID, u893.UID, a2, u893.GID, u893.EGID, u893.AUID, u893.Session, u893.Cwd, u893.Comm, u893.Exe, u893.Open, u893.Audited⟩ : api_Process)).length) c876] E1280 H rfl Try.underlying28 rfl ti28 rfl rfl rfl rfl) rfl fun a1282 E1283 => ?_)
            clear E1280
            refine wl_cons (wl_val E1283 rfl (rn_move E1283 rfl rfl) rfl fun a1284 E1285 => ?_)
            clear E1283
            refine wl_cons (wl_store (i := 7) (vs := [.int .i64 y873.Next, .int .i64 y873.NextSession, .slice p875 ((y873.Processes.set y848.1.toNat (⟨u893.PID, u893.PPID, u893.UID, a2, u893.GID, u893.EGID, u893.AUID, u893.Session, u893.Cwd, u893.Comm, u893.Exe, u893.Open, u893.Audited⟩ : api_Process)).length) c876]) (cs' := [.int .i64 y873.Next, .int .i64 y873.NextSession, .slice p875 ((y873.Processes.set y848.1.toNat (⟨u893.PID, u893.PPID, u893.UID, a2, u893.GID, u893.EGID, u893.AUID, u893.Session, u893.Cwd, u893.Comm, u893.Exe, u893.Open, u893.Audited⟩ : api_Process)).length) c876]) E1285 H rfl rfl rfl rfl ti28 rfl rfl rfl rfl rfl rfl fun w1288 a1286 E1287 H' => ?_)
            clear H E1285; have H := H'; clear H'
            refine wl_cons (wl_val E1287 rfl (rn_assign E1287 rfl rfl) rfl fun a1289 E1290 => ?_)
            clear E1287
            refine wl_cons (wl_val E1290 rfl (rn_assign E1290 rfl rfl) rfl fun a1291 E1292 => ?_)
            clear E1290
            refine wl_nil ?_
            refine then_normal (hK1281 _ _ ?_)
            refine wp_ret ?_
            refine ?_
            refine wb_ret3 E1292 rfl (rv_cellN (cs := [.int .i64 y873.Next, .int .i64 y873.NextSession, .slice p875 ((y873.Processes.set y848.1.toNat (⟨u893.PID, u893.PPID, u893.UID, a2, u893.GID, u893.EGID, u893.AUID, u893.Session, u893.Cwd, u893.Comm, u893.Exe, u893.Open, u893.Audited⟩ : api_Process)).length) c876]) E1292 rfl Try.underlying28 rfl ti28 (H.get (i := 7) (k := 0) rfl rfl) rfl) (rv_tmp E1292 rfl) (rv_tmp E1292 rfl) ⟨_, rfl, ?_⟩
            have E1293 := Env.put E823 (d := 14) rfl (.tuple #[.agg #[.int .i64 y873.Next, .int .i64 y873.NextSession, .slice p875 ((y873.Processes.set y848.1.toNat (⟨u893.PID, u893.PPID, u893.UID, a2, u893.GID, u893.EGID, u893.AUID, u893.Session, u893.Cwd, u893.Comm, u893.Exe, u893.Open, u893.Audited⟩ : api_Process)).length) c876], .bool true, .int .i64 0])
            generalize hae : Act.put _ (some 14) _ = a1294 at E1293 ⊢; clear hae
            refine wl_cons (wl_val E1293 rfl (rn_move E1293 rfl rfl) rfl fun a1295 E1296 => ?_)
            clear E1293
            refine wl_cons (wl_val E1296 rfl (rn_extract E1296 rfl rfl rfl) rfl fun a1297 E1298 => ?_)
            clear E1296
            refine wl_cons (wl_val E1298 rfl (rn_extract E1298 rfl rfl rfl) rfl fun a1299 E1300 => ?_)
            clear E1298
            refine wl_cons (wl_val E1300 rfl (rn_extract E1300 rfl rfl rfl) rfl fun a1301 E1302 => ?_)
            clear E1300
            refine wl_cons (wl_store (i := 3) (vs := [.int .i64 y873.Next, .int .i64 y873.NextSession, .slice p875 ((y873.Processes.set y848.1.toNat (⟨u893.PID, u893.PPID, u893.UID, a2, u893.GID, u893.EGID, u893.AUID, u893.Session, u893.Cwd, u893.Comm, u893.Exe, u893.Open, u893.Audited⟩ : api_Process)).length) c876]) (cs' := [.int .i64 y873.Next, .int .i64 y873.NextSession, .slice p875 ((y873.Processes.set y848.1.toNat (⟨u893.PID, u893.PPID, u893.UID, a2, u893.GID, u893.EGID, u893.AUID, u893.Session, u893.Cwd, u893.Comm, u893.Exe, u893.Open, u893.Audited⟩ : api_Process)).length) c876]) E1302 H rfl rfl rfl rfl ti28 rfl rfl rfl rfl rfl rfl fun w1305 a1303 E1304 H' => ?_)
            clear H E1302; have H := H'; clear H'
            refine wl_cons (wl_val E1304 rfl (rn_assign E1304 rfl rfl) rfl fun a1306 E1307 => ?_)
            clear E1304
            refine wl_cons (wl_val E1307 rfl (rn_assign E1307 rfl rfl) rfl fun a1308 E1309 => ?_)
            clear E1307
            refine wl_nil ?_
            refine then_normal (hK817 _ _ ?_)
            refine wp_seq_k fun _ hK1310 => ?_
            refine wp_region_lit ?_
            refine wl_cons (wl_val E1309 rfl (rn_ldN (i := 3) [.int .i64 y873.Next, .int .i64 y873.NextSession, .slice p875 ((y873.Processes.set y848.1.toNat (⟨u893.PID, u893.PPID, u893.UID, a2, u893.GID, u893.EGID, u893.AUID, u893.Session, u893.Cwd, u893.Comm, u893.Exe, u893.Open, u893.Audited⟩ : api_Process)).length) c876] E1309 H rfl Try.underlying28 rfl ti28 rfl rfl rfl rfl) rfl fun a1311 E1312 => ?_)
            clear E1309
            refine wl_cons (wl_val E1312 rfl (rn_move E1312 rfl rfl) rfl fun a1313 E1314 => ?_)
            clear E1312
            refine wl_cons (wl_store (i := 5) (vs := [.int .i64 y873.Next, .int .i64 y873.NextSession, .slice p875 ((y873.Processes.set y848.1.toNat (⟨u893.PID, u893.PPID, u893.UID, a2, u893.GID, u893.EGID, u893.AUID, u893.Session, u893.Cwd, u893.Comm, u893.Exe, u893.Open, u893.Audited⟩ : api_Process)).length) c876]) (cs' := [.int .i64 y873.Next, .int .i64 y873.NextSession, .slice p875 ((y873.Processes.set y848.1.toNat (⟨u893.PID, u893.PPID, u893.UID, a2, u893.GID, u893.EGID, u893.AUID, u893.Session, u893.Cwd, u893.Comm, u893.Exe, u893.Open, u893.Audited⟩ : api_Process)).length) c876]) E1314 H rfl rfl rfl rfl ti28 rfl rfl rfl rfl rfl rfl fun w1317 a1315 E1316 H' => ?_)
            clear H E1314; have H := H'; clear H'
            replace H : St w Nil Z w1317 [vw (kSlice 38 k_api_Process) a0.Processes [.slice p773 a0.Processes.length c774], vw (kSlice 81 k_api_Descriptor) u893.Open [.slice p933 u893.Open.length c934], vw (kSlice 81 k_api_Descriptor) u893.Open [.slice p1104 u893.Open.length c1105], vw (kSlice 81 k_api_Descriptor) u893.Open [.slice p1227 u893.Open.length c1228]] [[blk g778 [.int .i64 a0.Next, .int .i64 a0.NextSession, .slice p773 a0.Processes.length c774] 28], [blk g782 [.int .i64 a2] 3], [blk g786 [.int .i64 0, .int .i64 0, .slice none 0 0] 28], [blk g803 [.int .i64 y873.Next, .int .i64 y873.NextSession, .slice p875 ((y873.Processes.set y848.1.toNat (⟨u893.PID, u893.PPID, u893.UID, a2, u893.GID, u893.EGID, u893.AUID, u893.Session, u893.Cwd, u893.Comm, u893.Exe, u893.Open, u893.Audited⟩ : api_Process)).length) c876] 28], [blk g807 [.func (.func 35) #[] #[.pointer (some ⟨g782, 0, none⟩)]] 68], [blk g811 [.int .i64 y873.Next, .int .i64 y873.NextSession, .slice p875 ((y873.Processes.set y848.1.toNat (⟨u893.PID, u893.PPID, u893.UID, a2, u893.GID, u893.EGID, u893.AUID, u893.Session, u893.Cwd, u893.Comm, u893.Exe, u893.Open, u893.Audited⟩ : api_Process)).length) c876] 28], [blk g828 [.int .i64 y873.Next, .int .i64 y873.NextSession, .slice p875 ((y873.Processes.set y848.1.toNat (⟨u893.PID, u893.PPID, u893.UID, a2, u893.GID, u893.EGID, u893.AUID, u893.Session, u893.Cwd, u893.Comm, u893.Exe, u893.Open, u893.Audited⟩ : api_Process)).length) c876] 28], [blk g832 [.int .i64 y873.Next, .int .i64 y873.NextSession, .slice p875 ((y873.Processes.set y848.1.toNat (⟨u893.PID, u893.PPID, u893.UID, a2, u893.GID, u893.EGID, u893.AUID, u893.Session, u893.Cwd, u893.Comm, u893.Exe, u893.Open, u893.Audited⟩ : api_Process)).length) c876] 28], [row 38 k_api_Process (y873.Processes.set y848.1.toNat (⟨u893.PID, u893.PPID, u893.UID, a2, u893.GID, u893.EGID, u893.AUID, u893.Session, u893.Cwd, u893.Comm, u893.Exe, u893.Open, u893.Audited⟩ : api_Process)) (.slice p875 ((y873.Processes.set y848.1.toNat (⟨u893.PID, u893.PPID, u893.UID, a2, u893.GID, u893.EGID, u893.AUID, u893.Session, u893.Cwd, u893.Comm, u893.Exe, u893.Open, u893.Audited⟩ : api_Process)).length) c876)], [row 3 (kInt .i64) [a2] (.slice (some ⟨g969, 0, none⟩) 1 1)]] := H
            refine wl_cons (wl_val E1316 rfl (rn_assign E1316 rfl rfl) rfl fun a1318 E1319 => ?_)
            clear E1316
            refine wl_nil ?_
            refine then_normal (hK1310 _ _ ?_)
            refine wp_ret ?_
            refine ?_
            refine wb_ret2 E1319 rfl (rv_cellN (cs := [.int .i64 y873.Next, .int .i64 y873.NextSession, .slice p875 ((y873.Processes.set y848.1.toNat (⟨u893.PID, u893.PPID, u893.UID, a2, u893.GID, u893.EGID, u893.AUID, u893.Session, u893.Cwd, u893.Comm, u893.Exe, u893.Open, u893.Audited⟩ : api_Process)).length) c876]) E1319 rfl Try.underlying28 rfl ti28 (H.get (i := 5) (k := 0) rfl rfl) rfl) (rv_tmp E1319 rfl) ⟨_, rfl, ?_⟩
            have E1320 := Env.put E798 (d := 11) rfl (.tuple #[.agg #[.int .i64 y873.Next, .int .i64 y873.NextSession, .slice p875 ((y873.Processes.set y848.1.toNat (⟨u893.PID, u893.PPID, u893.UID, a2, u893.GID, u893.EGID, u893.AUID, u893.Session, u893.Cwd, u893.Comm, u893.Exe, u893.Open, u893.Audited⟩ : api_Process)).length) c876], .int .i64 0])
            generalize hae : Act.put _ (some 11) _ = a1321 at E1320 ⊢; clear hae
            refine wl_cons (wl_val E1320 rfl (rn_extract E1320 rfl rfl rfl) rfl fun a1322 E1323 => ?_)
            clear E1320
            refine wl_cons (wl_val E1323 rfl (rn_extract E1323 rfl rfl rfl) rfl fun a1324 E1325 => ?_)
            clear E1323
            refine wl_cons (wl_store (i := 2) (vs := [.int .i64 y873.Next, .int .i64 y873.NextSession, .slice p875 ((y873.Processes.set y848.1.toNat (⟨u893.PID, u893.PPID, u893.UID, a2, u893.GID, u893.EGID, u893.AUID, u893.Session, u893.Cwd, u893.Comm, u893.Exe, u893.Open, u893.Audited⟩ : api_Process)).length) c876]) (cs' := [.int .i64 y873.Next, .int .i64 y873.NextSession, .slice p875 ((y873.Processes.set y848.1.toNat (⟨u893.PID, u893.PPID, u893.UID, a2, u893.GID, u893.EGID, u893.AUID, u893.Session, u893.Cwd, u893.Comm, u893.Exe, u893.Open, u893.Audited⟩ : api_Process)).length) c876]) E1325 H rfl rfl rfl rfl ti28 rfl rfl rfl rfl rfl rfl fun w1328 a1326 E1327 H' => ?_)
            clear H E1325; have H := H'; clear H'
            refine wl_cons (wl_val E1327 rfl (rn_assign E1327 rfl rfl) rfl fun a1329 E1330 => ?_)
            clear E1327
            refine wl_nil ?_
            refine then_normal (hK792 _ _ ?_)
            refine wp_ret ?_
            refine ?_
            obtain rfl := Option.some.inj h
            replace H : St w Nil Z w1328 [vw (kSlice 38 k_api_Process) a0.Processes [.slice p773 a0.Processes.length c774], vw (kSlice 81 k_api_Descriptor) u893.Open [.slice p933 u893.Open.length c934], vw (kSlice 81 k_api_Descriptor) u893.Open [.slice p1104 u893.Open.length c1105], vw (kSlice 81 k_api_Descriptor) u893.Open [.slice p1227 u893.Open.length c1228]] [[blk g778 [.int .i64 a0.Next, .int .i64 a0.NextSession, .slice p773 a0.Processes.length c774] 28], [blk g782 [.int .i64 a2] 3], [blk g786 [.int .i64 y873.Next, .int .i64 y873.NextSession, .slice p875 ((y873.Processes.set y848.1.toNat (⟨u893.PID, u893.PPID, u893.UID, a2, u893.GID, u893.EGID, u893.AUID, u893.Session, u893.Cwd, u893.Comm, u893.Exe, u893.Open, u893.Audited⟩ : api_Process)).length) c876] 28], [blk g803 [.int .i64 y873.Next, .int .i64 y873.NextSession, .slice p875 ((y873.Processes.set y848.1.toNat (⟨u893.PID, u893.PPID, u893.UID, a2, u893.GID, u893.EGID, u893.AUID, u893.Session, u893.Cwd, u893.Comm, u893.Exe, u893.Open, u893.Audited⟩ : api_Process)).length) c876] 28], [blk g807 [.func (.func 35) #[] #[.pointer (some ⟨g782, 0, none⟩)]] 68], [blk g811 [.int .i64 y873.Next, .int .i64 y873.NextSession, .slice p875 ((y873.Processes.set y848.1.toNat (⟨u893.PID, u893.PPID, u893.UID, a2, u893.GID, u893.EGID, u893.AUID, u893.Session, u893.Cwd, u893.Comm, u893.Exe, u893.Open, u893.Audited⟩ : api_Process)).length) c876] 28], [blk g828 [.int .i64 y873.Next, .int .i64 y873.NextSession, .slice p875 ((y873.Processes.set y848.1.toNat (⟨u893.PID, u893.PPID, u893.UID, a2, u893.GID, u893.EGID, u893.AUID, u893.Session, u893.Cwd, u893.Comm, u893.Exe, u893.Open, u893.Audited⟩ : api_Process)).length) c876] 28], [blk g832 [.int .i64 y873.Next, .int .i64 y873.NextSession, .slice p875 ((y873.Processes.set y848.1.toNat (⟨u893.PID, u893.PPID, u893.UID, a2, u893.GID, u893.EGID, u893.AUID, u893.Session, u893.Cwd, u893.Comm, u893.Exe, u893.Open, u893.Audited⟩ : api_Process)).length) c876] 28], [row 38 k_api_Process (y873.Processes.set y848.1.toNat (⟨u893.PID, u893.PPID, u893.UID, a2, u893.GID, u893.EGID, u893.AUID, u893.Session, u893.Cwd, u893.Comm, u893.Exe, u893.Open, u893.Audited⟩ : api_Process)) (.slice p875 ((y873.Processes.set y848.1.toNat (⟨u893.PID, u893.PPID, u893.UID, a2, u893.GID, u893.EGID, u893.AUID, u893.Session, u893.Cwd, u893.Comm, u893.Exe, u893.Open, u893.Audited⟩ : api_Process)).length) c876)], [row 3 (kInt .i64) [a2] (.slice (some ⟨g969, 0, none⟩) 1 1)]] := H
            refine wb_ret2 E1330 rfl (rv_cellN (cs := [.int .i64 y873.Next, .int .i64 y873.NextSession, .slice p875 ((y873.Processes.set y848.1.toNat (⟨u893.PID, u893.PPID, u893.UID, a2, u893.GID, u893.EGID, u893.AUID, u893.Session, u893.Cwd, u893.Comm, u893.Exe, u893.Open, u893.Audited⟩ : api_Process)).length) c876]) E1330 rfl Try.underlying28 rfl ti28 (H.get (i := 2) (k := 0) rfl rfl) rfl) (rv_tmp E1330 rfl) ?_
            exact ⟨_, rfl, [], [[row 38 k_api_Process (y873.Processes.set y848.1.toNat (⟨u893.PID, u893.PPID, u893.UID, a2, u893.GID, u893.EGID, u893.AUID, u893.Session, u893.Cwd, u893.Comm, u893.Exe, u893.Open, u893.Audited⟩ : api_Process)) (.slice p875 ((y873.Processes.set y848.1.toNat (⟨u893.PID, u893.PPID, u893.UID, a2, u893.GID, u893.EGID, u893.AUID, u893.Session, u893.Cwd, u893.Comm, u893.Exe, u893.Open, u893.Audited⟩ : api_Process)).length) c876)]], ⟨_, _, rfl, rfl, rfl⟩, H.leave (fun Z hA => trivial) (fun Z S hA hL => Holds_sub (.cons _ (.cons _ (.cons _ (.cons _ (.cons _ (.cons _ (.cons _ (.cons _ (.cons_cons _ (.cons _ .slnil)))))))))) hL)⟩
          · replace h := itF hb1237 h
            refine wc_F E1236 rfl hb1237 ?_
            refine wp_seq_k fun _ hK1331 => ?_
            refine wp_region_lit ?_
            refine wl_cons (wl_val E1236 rfl (rn_assign E1236 rfl rfl) rfl fun a1332 E1333 => ?_)
            clear E1236
            refine wl_nil ?_
            refine then_normal (hK1331 _ _ ?_)
            refine wp_ret ?_
            refine block_ret (then_ret (?_))
            refine wb_ret1 E1333 rfl (rv_tmp E1333 rfl) ⟨_, rfl, ?_⟩
            have E1334 := Env.put E958 (d := 18) rfl (.int .i64 1)
            generalize hae : Act.put _ (some 18) _ = a1335 at E1334 ⊢; clear hae
            refine ⟨fun h_ => (needs_no (by kernel_rfl) h_).elim, ?_⟩
            refine wa_take (i := 13) E1334 rfl (by kernel_rfl) (panic_then panic_body) rfl (fun w_ => rn_assign E1334 rfl rfl) rfl fun a1336 E1337 => ?_
            clear E1334
            refine wa_done (by kernel_rfl) ?_
            refine then_normal (hK921 _ _ ?_)
            refine wp_ret ?_
            refine ?_
            refine wb_ret1 E1337 rfl (rv_tmp E1337 rfl) ⟨_, rfl, ?_⟩
            have E1338 := Env.put E914 (d := 10) rfl (.int .i64 1)
            generalize hae : Act.put _ (some 10) _ = a1339 at E1338 ⊢; clear hae
            refine wl_cons (wl_val E1338 rfl (rn_assign E1338 rfl rfl) rfl fun a1340 E1341 => ?_)
            clear E1338
            refine wl_cons (wl_val E1341 rfl (rn_assign E1341 rfl rfl) rfl fun a1342 E1343 => ?_)
            clear E1341
            refine wl_nil ?_
            refine then_normal (hK908 _ _ ?_)
            refine wp_ret ?_
            refine ?_
            refine wb_ret2 E1343 rfl (rv_tmp E1343 rfl) (rv_tmp E1343 rfl) ⟨_, rfl, ?_⟩
            have E1344 := Env.put E899 (d := 32) rfl (.tuple #[.bool true, .int .i64 1])
            generalize hae : Act.put _ (some 32) _ = a1345 at E1344 ⊢; clear hae
            refine wl_cons (wl_val E1344 rfl (rn_move E1344 rfl rfl) rfl fun a1346 E1347 => ?_)
            clear E1344
            refine wl_cons (wl_val E1347 rfl (rn_extract E1347 rfl rfl rfl) rfl fun a1348 E1349 => ?_)
            clear E1347
            refine wl_cons (wl_val E1349 rfl (rn_extract E1349 rfl rfl rfl) rfl fun a1350 E1351 => ?_)
            clear E1349
            refine wl_cons (wl_val E1351 rfl (rn_assign E1351 rfl rfl) rfl fun a1352 E1353 => ?_)
            clear E1351
            refine wl_cons (wl_val E1353 rfl (rn_assign E1353 rfl rfl) rfl fun a1354 E1355 => ?_)
            clear E1353
            refine wl_nil ?_
            refine then_normal (hK884 _ _ ?_)
            refine wp_seq_k fun _ hK1356 => ?_
            refine wp_seq_k fun _ hK1357 => ?_
            refine wp_region_lit ?_
            refine wl_cons (wl_val E1355 rfl (rn_move E1355 rfl rfl) rfl fun a1358 E1359 => ?_)
            clear E1355
            refine wl_cons (wl_val E1359 rfl (rn_int E1359 rfl rfl rfl rfl) rfl fun a1360 E1361 => ?_)
            clear E1359
            refine wl_nil ?_
            refine then_normal (hK1357 _ _ ?_)
            refine wc_T E1361 rfl rfl ?_
            refine wp_seq_k fun _ hK1362 => ?_
            refine wp_region_lit ?_
            refine wl_cons (wl_val E1361 rfl (rn_build (ps := []) (cs := [.int .i64 0, .int .i64 0, .slice none 0 0]) E1361 rfl rfl (by kernel_rfl)) rfl fun a1363 E1364 => ?_)
            clear E1361
            refine wl_cons (wl_val E1364 rfl (rn_move E1364 rfl rfl) rfl fun a1365 E1366 => ?_)
            clear E1364
            refine wl_cons (wl_val E1366 rfl (rn_move E1366 rfl rfl) rfl fun a1367 E1368 => ?_)
            clear E1366
            refine wl_cons (wl_store (i := 7) (vs := [.int .i64 0, .int .i64 0, .slice none 0 0]) (cs' := [.int .i64 0, .int .i64 0, .slice none 0 0]) E1368 H rfl rfl rfl rfl ti28 rfl rfl rfl rfl rfl rfl fun w1371 a1369 E1370 H' => ?_)
            clear H E1368; have H := H'; clear H'
            replace H : St w Nil Z w1371 [vw (kSlice 38 k_api_Process) a0.Processes [.slice p773 a0.Processes.length c774], vw (kSlice 81 k_api_Descriptor) u893.Open [.slice p933 u893.Open.length c934], vw (kSlice 81 k_api_Descriptor) u893.Open [.slice p1104 u893.Open.length c1105], vw (kSlice 81 k_api_Descriptor) u893.Open [.slice p1227 u893.Open.length c1228]] [[blk g778 [.int .i64 a0.Next, .int .i64 a0.NextSession, .slice p773 a0.Processes.length c774] 28], [blk g782 [.int .i64 a2] 3], [blk g786 [.int .i64 0, .int .i64 0, .slice none 0 0] 28], [blk g803 [.int .i64 a0.Next, .int .i64 a0.NextSession, .slice p773 a0.Processes.length c774] 28], [blk g807 [.func (.func 35) #[] #[.pointer (some ⟨g782, 0, none⟩)]] 68], [blk g811 [.int .i64 0, .int .i64 0, .slice none 0 0] 28], [blk g828 [.int .i64 y873.Next, .int .i64 y873.NextSession, .slice p875 y873.Processes.length c876] 28], [blk g832 [.int .i64 0, .int .i64 0, .slice none 0 0] 28], [row 38 k_api_Process y873.Processes (.slice p875 y873.Processes.length c876)], [row 3 (kInt .i64) [a2] (.slice (some ⟨g969, 0, none⟩) 1 1)]] := H
            refine wl_cons (wl_val E1370 rfl (rn_assign E1370 rfl rfl) rfl fun a1372 E1373 => ?_)
            clear E1370
            refine wl_cons (wl_val E1373 rfl (rn_assign E1373 rfl rfl) rfl fun a1374 E1375 => ?_)
            clear E1373
            refine wl_nil ?_
            refine then_normal (hK1362 _ _ ?_)
            refine wp_ret ?_
            refine then_ret (?_)
            refine wb_ret3 E1375 rfl (rv_cellN (cs := [.int .i64 0, .int .i64 0, .slice none 0 0]) E1375 rfl Try.underlying28 rfl ti28 (H.get (i := 7) (k := 0) rfl rfl) rfl) (rv_tmp E1375 rfl) (rv_tmp E1375 rfl) ⟨_, rfl, ?_⟩
            have E1376 := Env.put E823 (d := 14) rfl (.tuple #[.agg #[.int .i64 0, .int .i64 0, .slice none 0 0], .bool false, .int .i64 1])
            generalize hae : Act.put _ (some 14) _ = a1377 at E1376 ⊢; clear hae
            refine wl_cons (wl_val E1376 rfl (rn_move E1376 rfl rfl) rfl fun a1378 E1379 => ?_)
            clear E1376
            refine wl_cons (wl_val E1379 rfl (rn_extract E1379 rfl rfl rfl) rfl fun a1380 E1381 => ?_)
            clear E1379
            refine wl_cons (wl_val E1381 rfl (rn_extract E1381 rfl rfl rfl) rfl fun a1382 E1383 => ?_)
            clear E1381
            refine wl_cons (wl_val E1383 rfl (rn_extract E1383 rfl rfl rfl) rfl fun a1384 E1385 => ?_)
            clear E1383
            refine wl_cons (wl_store (i := 3) (vs := [.int .i64 0, .int .i64 0, .slice none 0 0]) (cs' := [.int .i64 0, .int .i64 0, .slice none 0 0]) E1385 H rfl rfl rfl rfl ti28 rfl rfl rfl rfl rfl rfl fun w1388 a1386 E1387 H' => ?_)
            clear H E1385; have H := H'; clear H'
            refine wl_cons (wl_val E1387 rfl (rn_assign E1387 rfl rfl) rfl fun a1389 E1390 => ?_)
            clear E1387
            refine wl_cons (wl_val E1390 rfl (rn_assign E1390 rfl rfl) rfl fun a1391 E1392 => ?_)
            clear E1390
            refine wl_nil ?_
            refine then_normal (hK817 _ _ ?_)
            refine wp_seq_k fun _ hK1393 => ?_
            refine wp_region_lit ?_
            refine wl_cons (wl_val E1392 rfl (rn_ldN (i := 3) [.int .i64 0, .int .i64 0, .slice none 0 0] E1392 H rfl Try.underlying28 rfl ti28 rfl rfl rfl rfl) rfl fun a1394 E1395 => ?_)
            clear E1392
            refine wl_cons (wl_val E1395 rfl (rn_move E1395 rfl rfl) rfl fun a1396 E1397 => ?_)
            clear E1395
            refine wl_cons (wl_store (i := 5) (vs := [.int .i64 0, .int .i64 0, .slice none 0 0]) (cs' := [.int .i64 0, .int .i64 0, .slice none 0 0]) E1397 H rfl rfl rfl rfl ti28 rfl rfl rfl rfl rfl rfl fun w1400 a1398 E1399 H' => ?_)
            clear H E1397; have H := H'; clear H'
            refine wl_cons (wl_val E1399 rfl (rn_assign E1399 rfl rfl) rfl fun a1401 E1402 => ?_)
            clear E1399
            refine wl_nil ?_
            refine then_normal (hK1393 _ _ ?_)
            refine wp_ret ?_
            refine ?_
            refine wb_ret2 E1402 rfl (rv_cellN (cs := [.int .i64 0, .int .i64 0, .slice none 0 0]) E1402 rfl Try.underlying28 rfl ti28 (H.get (i := 5) (k := 0) rfl rfl) rfl) (rv_tmp E1402 rfl) ⟨_, rfl, ?_⟩
            have E1403 := Env.put E798 (d := 11) rfl (.tuple #[.agg #[.int .i64 0, .int .i64 0, .slice none 0 0], .int .i64 1])
            generalize hae : Act.put _ (some 11) _ = a1404 at E1403 ⊢; clear hae
            refine wl_cons (wl_val E1403 rfl (rn_extract E1403 rfl rfl rfl) rfl fun a1405 E1406 => ?_)
            clear E1403
            refine wl_cons (wl_val E1406 rfl (rn_extract E1406 rfl rfl rfl) rfl fun a1407 E1408 => ?_)
            clear E1406
            refine wl_cons (wl_store (i := 2) (vs := [.int .i64 0, .int .i64 0, .slice none 0 0]) (cs' := [.int .i64 0, .int .i64 0, .slice none 0 0]) E1408 H rfl rfl rfl rfl ti28 rfl rfl rfl rfl rfl rfl fun w1411 a1409 E1410 H' => ?_)
            clear H E1408; have H := H'; clear H'
            replace H : St w Nil Z w1411 [vw (kSlice 38 k_api_Process) a0.Processes [.slice p773 a0.Processes.length c774], vw (kSlice 81 k_api_Descriptor) u893.Open [.slice p933 u893.Open.length c934], vw (kSlice 81 k_api_Descriptor) u893.Open [.slice p1104 u893.Open.length c1105], vw (kSlice 81 k_api_Descriptor) u893.Open [.slice p1227 u893.Open.length c1228]] [[blk g778 [.int .i64 a0.Next, .int .i64 a0.NextSession, .slice p773 a0.Processes.length c774] 28], [blk g782 [.int .i64 a2] 3], [blk g786 [.int .i64 0, .int .i64 0, .slice none 0 0] 28], [blk g803 [.int .i64 0, .int .i64 0, .slice none 0 0] 28], [blk g807 [.func (.func 35) #[] #[.pointer (some ⟨g782, 0, none⟩)]] 68], [blk g811 [.int .i64 0, .int .i64 0, .slice none 0 0] 28], [blk g828 [.int .i64 y873.Next, .int .i64 y873.NextSession, .slice p875 y873.Processes.length c876] 28], [blk g832 [.int .i64 0, .int .i64 0, .slice none 0 0] 28], [row 38 k_api_Process y873.Processes (.slice p875 y873.Processes.length c876)], [row 3 (kInt .i64) [a2] (.slice (some ⟨g969, 0, none⟩) 1 1)]] := H
            refine wl_cons (wl_val E1410 rfl (rn_assign E1410 rfl rfl) rfl fun a1412 E1413 => ?_)
            clear E1410
            refine wl_nil ?_
            refine then_normal (hK792 _ _ ?_)
            refine wp_ret ?_
            refine ?_
            obtain rfl := Option.some.inj h
            replace H := H.nilRow 38 k_api_Process
            replace H : St w Nil Z w1411 [vw (kSlice 38 k_api_Process) a0.Processes [.slice p773 a0.Processes.length c774], vw (kSlice 81 k_api_Descriptor) u893.Open [.slice p933 u893.Open.length c934], vw (kSlice 81 k_api_Descriptor) u893.Open [.slice p1104 u893.Open.length c1105], vw (kSlice 81 k_api_Descriptor) u893.Open [.slice p1227 u893.Open.length c1228]] [[blk g778 [.int .i64 a0.Next, .int .i64 a0.NextSession, .slice p773 a0.Processes.length c774] 28], [blk g782 [.int .i64 a2] 3], [blk g786 [.int .i64 0, .int .i64 0, .slice none 0 0] 28], [blk g803 [.int .i64 0, .int .i64 0, .slice none 0 0] 28], [blk g807 [.func (.func 35) #[] #[.pointer (some ⟨g782, 0, none⟩)]] 68], [blk g811 [.int .i64 0, .int .i64 0, .slice none 0 0] 28], [blk g828 [.int .i64 y873.Next, .int .i64 y873.NextSession, .slice p875 y873.Processes.length c876] 28], [blk g832 [.int .i64 0, .int .i64 0, .slice none 0 0] 28], [row 38 k_api_Process y873.Processes (.slice p875 y873.Processes.length c876)], [row 3 (kInt .i64) [a2] (.slice (some ⟨g969, 0, none⟩) 1 1)], [row 38 k_api_Process ([] : List api_Process) (.slice none 0 0)]] := H
            refine wb_ret2 E1413 rfl (rv_cellN (cs := [.int .i64 0, .int .i64 0, .slice none 0 0]) E1413 rfl Try.underlying28 rfl ti28 (H.get (i := 2) (k := 0) rfl rfl) rfl) (rv_tmp E1413 rfl) ?_
            exact ⟨_, rfl, [], [[row 38 k_api_Process ([] : List api_Process) (.slice none 0 0)]], ⟨_, _, rfl, rfl, rfl⟩, H.leave (fun Z hA => trivial) (fun Z S hA hL => Holds_sub (.cons _ (.cons _ (.cons _ (.cons _ (.cons _ (.cons _ (.cons _ (.cons _ (.cons _ (.cons _ (.cons_cons _ .slnil))))))))))) hL)⟩
    · replace h := itF hb983 h
      refine wc_T E982 rfl (congrArg Bool.not hb983) ?_
      refine wp_seq_k fun _ hK1414 => ?_
      refine wp_region_lit ?_
      refine wl_cons (wl_val E982 rfl (rn_assign E982 rfl rfl) rfl fun a1415 E1416 => ?_)
      clear E982
      refine wl_nil ?_
      refine then_normal (hK1414 _ _ ?_)
      refine wp_ret ?_
      refine block_ret (then_ret (?_))
      refine wb_ret1 E1416 rfl (rv_tmp E1416 rfl) ⟨_, rfl, ?_⟩
      have E1417 := Env.put E958 (d := 18) rfl (.int .i64 22)
      generalize hae : Act.put _ (some 18) _ = a1418 at E1417 ⊢; clear hae
      refine ⟨fun h_ => (needs_no (by kernel_rfl) h_).elim, ?_⟩
      refine wa_take (i := 13) E1417 rfl (by kernel_rfl) (panic_then panic_body) rfl (fun w_ => rn_assign E1417 rfl rfl) rfl fun a1419 E1420 => ?_
      clear E1417
      refine wa_done (by kernel_rfl) ?_
      refine then_normal (hK921 _ _ ?_)
      refine wp_ret ?_
      refine ?_
      refine wb_ret1 E1420 rfl (rv_tmp E1420 rfl) ⟨_, rfl, ?_⟩
      have E1421 := Env.put E914 (d := 10) rfl (.int .i64 22)
      generalize hae : Act.put _ (some 10) _ = a1422 at E1421 ⊢; clear hae
      refine wl_cons (wl_val E1421 rfl (rn_assign E1421 rfl rfl) rfl fun a1423 E1424 => ?_)
      clear E1421
      refine wl_cons (wl_val E1424 rfl (rn_assign E1424 rfl rfl) rfl fun a1425 E1426 => ?_)
      clear E1424
      refine wl_nil ?_
      refine then_normal (hK908 _ _ ?_)
      refine wp_ret ?_
      refine ?_
      refine wb_ret2 E1426 rfl (rv_tmp E1426 rfl) (rv_tmp E1426 rfl) ⟨_, rfl, ?_⟩
      have E1427 := Env.put E899 (d := 32) rfl (.tuple #[.bool true, .int .i64 22])
      generalize hae : Act.put _ (some 32) _ = a1428 at E1427 ⊢; clear hae
      refine wl_cons (wl_val E1427 rfl (rn_move E1427 rfl rfl) rfl fun a1429 E1430 => ?_)
      clear E1427
      refine wl_cons (wl_val E1430 rfl (rn_extract E1430 rfl rfl rfl) rfl fun a1431 E1432 => ?_)
      clear E1430
      refine wl_cons (wl_val E1432 rfl (rn_extract E1432 rfl rfl rfl) rfl fun a1433 E1434 => ?_)
      clear E1432
      refine wl_cons (wl_val E1434 rfl (rn_assign E1434 rfl rfl) rfl fun a1435 E1436 => ?_)
      clear E1434
      refine wl_cons (wl_val E1436 rfl (rn_assign E1436 rfl rfl) rfl fun a1437 E1438 => ?_)
      clear E1436
      refine wl_nil ?_
      refine then_normal (hK884 _ _ ?_)
      refine wp_seq_k fun _ hK1439 => ?_
      refine wp_seq_k fun _ hK1440 => ?_
      refine wp_region_lit ?_
      refine wl_cons (wl_val E1438 rfl (rn_move E1438 rfl rfl) rfl fun a1441 E1442 => ?_)
      clear E1438
      refine wl_cons (wl_val E1442 rfl (rn_int E1442 rfl rfl rfl rfl) rfl fun a1443 E1444 => ?_)
      clear E1442
      refine wl_nil ?_
      refine then_normal (hK1440 _ _ ?_)
      refine wc_T E1444 rfl rfl ?_
      refine wp_seq_k fun _ hK1445 => ?_
      refine wp_region_lit ?_
      refine wl_cons (wl_val E1444 rfl (rn_build (ps := []) (cs := [.int .i64 0, .int .i64 0, .slice none 0 0]) E1444 rfl rfl (by kernel_rfl)) rfl fun a1446 E1447 => ?_)
      clear E1444
      refine wl_cons (wl_val E1447 rfl (rn_move E1447 rfl rfl) rfl fun a1448 E1449 => ?_)
      clear E1447
      refine wl_cons (wl_val E1449 rfl (rn_move E1449 rfl rfl) rfl fun a1450 E1451 => ?_)
      clear E1449
      refine wl_cons (wl_store (i := 7) (vs := [.int .i64 0, .int .i64 0, .slice none 0 0]) (cs' := [.int .i64 0, .int .i64 0, .slice none 0 0]) E1451 H rfl rfl rfl rfl ti28 rfl rfl rfl rfl rfl rfl fun w1454 a1452 E1453 H' => ?_)
      clear H E1451; have H := H'; clear H'
      replace H : St w Nil Z w1454 [vw (kSlice 38 k_api_Process) a0.Processes [.slice p773 a0.Processes.length c774], vw (kSlice 81 k_api_Descriptor) u893.Open [.slice p933 u893.Open.length c934]] [[blk g778 [.int .i64 a0.Next, .int .i64 a0.NextSession, .slice p773 a0.Processes.length c774] 28], [blk g782 [.int .i64 a2] 3], [blk g786 [.int .i64 0, .int .i64 0, .slice none 0 0] 28], [blk g803 [.int .i64 a0.Next, .int .i64 a0.NextSession, .slice p773 a0.Processes.length c774] 28], [blk g807 [.func (.func 35) #[] #[.pointer (some ⟨g782, 0, none⟩)]] 68], [blk g811 [.int .i64 0, .int .i64 0, .slice none 0 0] 28], [blk g828 [.int .i64 y873.Next, .int .i64 y873.NextSession, .slice p875 y873.Processes.length c876] 28], [blk g832 [.int .i64 0, .int .i64 0, .slice none 0 0] 28], [row 38 k_api_Process y873.Processes (.slice p875 y873.Processes.length c876)], [row 3 (kInt .i64) [a2] (.slice (some ⟨g969, 0, none⟩) 1 1)]] := H
      refine wl_cons (wl_val E1453 rfl (rn_assign E1453 rfl rfl) rfl fun a1455 E1456 => ?_)
      clear E1453
      refine wl_cons (wl_val E1456 rfl (rn_assign E1456 rfl rfl) rfl fun a1457 E1458 => ?_)
      clear E1456
      refine wl_nil ?_
      refine then_normal (hK1445 _ _ ?_)
      refine wp_ret ?_
      refine then_ret (?_)
      refine wb_ret3 E1458 rfl (rv_cellN (cs := [.int .i64 0, .int .i64 0, .slice none 0 0]) E1458 rfl Try.underlying28 rfl ti28 (H.get (i := 7) (k := 0) rfl rfl) rfl) (rv_tmp E1458 rfl) (rv_tmp E1458 rfl) ⟨_, rfl, ?_⟩
      have E1459 := Env.put E823 (d := 14) rfl (.tuple #[.agg #[.int .i64 0, .int .i64 0, .slice none 0 0], .bool false, .int .i64 22])
      generalize hae : Act.put _ (some 14) _ = a1460 at E1459 ⊢; clear hae
      refine wl_cons (wl_val E1459 rfl (rn_move E1459 rfl rfl) rfl fun a1461 E1462 => ?_)
      clear E1459
      refine wl_cons (wl_val E1462 rfl (rn_extract E1462 rfl rfl rfl) rfl fun a1463 E1464 => ?_)
      clear E1462
      refine wl_cons (wl_val E1464 rfl (rn_extract E1464 rfl rfl rfl) rfl fun a1465 E1466 => ?_)
      clear E1464
      refine wl_cons (wl_val E1466 rfl (rn_extract E1466 rfl rfl rfl) rfl fun a1467 E1468 => ?_)
      clear E1466
      refine wl_cons (wl_store (i := 3) (vs := [.int .i64 0, .int .i64 0, .slice none 0 0]) (cs' := [.int .i64 0, .int .i64 0, .slice none 0 0]) E1468 H rfl rfl rfl rfl ti28 rfl rfl rfl rfl rfl rfl fun w1471 a1469 E1470 H' => ?_)
      clear H E1468; have H := H'; clear H'
      refine wl_cons (wl_val E1470 rfl (rn_assign E1470 rfl rfl) rfl fun a1472 E1473 => ?_)
      clear E1470
      refine wl_cons (wl_val E1473 rfl (rn_assign E1473 rfl rfl) rfl fun a1474 E1475 => ?_)
      clear E1473
      refine wl_nil ?_
      refine then_normal (hK817 _ _ ?_)
      refine wp_seq_k fun _ hK1476 => ?_
      refine wp_region_lit ?_
      refine wl_cons (wl_val E1475 rfl (rn_ldN (i := 3) [.int .i64 0, .int .i64 0, .slice none 0 0] E1475 H rfl Try.underlying28 rfl ti28 rfl rfl rfl rfl) rfl fun a1477 E1478 => ?_)
      clear E1475
      refine wl_cons (wl_val E1478 rfl (rn_move E1478 rfl rfl) rfl fun a1479 E1480 => ?_)
      clear E1478
      refine wl_cons (wl_store (i := 5) (vs := [.int .i64 0, .int .i64 0, .slice none 0 0]) (cs' := [.int .i64 0, .int .i64 0, .slice none 0 0]) E1480 H rfl rfl rfl rfl ti28 rfl rfl rfl rfl rfl rfl fun w1483 a1481 E1482 H' => ?_)
      clear H E1480; have H := H'; clear H'
      refine wl_cons (wl_val E1482 rfl (rn_assign E1482 rfl rfl) rfl fun a1484 E1485 => ?_)
      clear E1482
      refine wl_nil ?_
      refine then_normal (hK1476 _ _ ?_)
      refine wp_ret ?_
      refine ?_
      refine wb_ret2 E1485 rfl (rv_cellN (cs := [.int .i64 0, .int .i64 0, .slice none 0 0]) E1485 rfl Try.underlying28 rfl ti28 (H.get (i := 5) (k := 0) rfl rfl) rfl) (rv_tmp E1485 rfl) ⟨_, rfl, ?_⟩
      have E1486 := Env.put E798 (d := 11) rfl (.tuple #[.agg #[.int .i64 0, .int .i64 0, .slice none 0 0], .int .i64 22])
      generalize hae : Act.put _ (some 11) _ = a1487 at E1486 ⊢; clear hae
      refine wl_cons (wl_val E1486 rfl (rn_extract E1486 rfl rfl rfl) rfl fun a1488 E1489 => ?_)
      clear E1486
      refine wl_cons (wl_val E1489 rfl (rn_extract E1489 rfl rfl rfl) rfl fun a1490 E1491 => ?_)
      clear E1489
      refine wl_cons (wl_store (i := 2) (vs := [.int .i64 0, .int .i64 0, .slice none 0 0]) (cs' := [.int .i64 0, .int .i64 0, .slice none 0 0]) E1491 H rfl rfl rfl rfl ti28 rfl rfl rfl rfl rfl rfl fun w1494 a1492 E1493 H' => ?_)
      clear H E1491; have H := H'; clear H'
      replace H : St w Nil Z w1494 [vw (kSlice 38 k_api_Process) a0.Processes [.slice p773 a0.Processes.length c774], vw (kSlice 81 k_api_Descriptor) u893.Open [.slice p933 u893.Open.length c934]] [[blk g778 [.int .i64 a0.Next, .int .i64 a0.NextSession, .slice p773 a0.Processes.length c774] 28], [blk g782 [.int .i64 a2] 3], [blk g786 [.int .i64 0, .int .i64 0, .slice none 0 0] 28], [blk g803 [.int .i64 0, .int .i64 0, .slice none 0 0] 28], [blk g807 [.func (.func 35) #[] #[.pointer (some ⟨g782, 0, none⟩)]] 68], [blk g811 [.int .i64 0, .int .i64 0, .slice none 0 0] 28], [blk g828 [.int .i64 y873.Next, .int .i64 y873.NextSession, .slice p875 y873.Processes.length c876] 28], [blk g832 [.int .i64 0, .int .i64 0, .slice none 0 0] 28], [row 38 k_api_Process y873.Processes (.slice p875 y873.Processes.length c876)], [row 3 (kInt .i64) [a2] (.slice (some ⟨g969, 0, none⟩) 1 1)]] := H
      refine wl_cons (wl_val E1493 rfl (rn_assign E1493 rfl rfl) rfl fun a1495 E1496 => ?_)
      clear E1493
      refine wl_nil ?_
      refine then_normal (hK792 _ _ ?_)
      refine wp_ret ?_
      refine ?_
      obtain rfl := Option.some.inj h
      replace H := H.nilRow 38 k_api_Process
      replace H : St w Nil Z w1494 [vw (kSlice 38 k_api_Process) a0.Processes [.slice p773 a0.Processes.length c774], vw (kSlice 81 k_api_Descriptor) u893.Open [.slice p933 u893.Open.length c934]] [[blk g778 [.int .i64 a0.Next, .int .i64 a0.NextSession, .slice p773 a0.Processes.length c774] 28], [blk g782 [.int .i64 a2] 3], [blk g786 [.int .i64 0, .int .i64 0, .slice none 0 0] 28], [blk g803 [.int .i64 0, .int .i64 0, .slice none 0 0] 28], [blk g807 [.func (.func 35) #[] #[.pointer (some ⟨g782, 0, none⟩)]] 68], [blk g811 [.int .i64 0, .int .i64 0, .slice none 0 0] 28], [blk g828 [.int .i64 y873.Next, .int .i64 y873.NextSession, .slice p875 y873.Processes.length c876] 28], [blk g832 [.int .i64 0, .int .i64 0, .slice none 0 0] 28], [row 38 k_api_Process y873.Processes (.slice p875 y873.Processes.length c876)], [row 3 (kInt .i64) [a2] (.slice (some ⟨g969, 0, none⟩) 1 1)], [row 38 k_api_Process ([] : List api_Process) (.slice none 0 0)]] := H
      refine wb_ret2 E1496 rfl (rv_cellN (cs := [.int .i64 0, .int .i64 0, .slice none 0 0]) E1496 rfl Try.underlying28 rfl ti28 (H.get (i := 2) (k := 0) rfl rfl) rfl) (rv_tmp E1496 rfl) ?_
      exact ⟨_, rfl, [], [[row 38 k_api_Process ([] : List api_Process) (.slice none 0 0)]], ⟨_, _, rfl, rfl, rfl⟩, H.leave (fun Z hA => trivial) (fun Z S hA hL => Holds_sub (.cons _ (.cons _ (.cons _ (.cons _ (.cons _ (.cons _ (.cons _ (.cons _ (.cons _ (.cons _ (.cons_cons _ .slnil))))))))))) hL)⟩
  · replace h := itF hb869 h
    refine wc_T E868 rfl (congrArg Bool.not hb869) ?_
    refine wp_seq_k fun _ hK1497 => ?_
    refine wp_region_lit ?_
    refine wl_cons (wl_val E868 rfl (rn_build (ps := []) (cs := [.int .i64 0, .int .i64 0, .slice none 0 0]) E868 rfl rfl (by kernel_rfl)) rfl fun a1498 E1499 => ?_)
    clear E868
    refine wl_cons (wl_val E1499 rfl (rn_move E1499 rfl rfl) rfl fun a1500 E1501 => ?_)
    clear E1499
    refine wl_cons (wl_store (i := 7) (vs := [.int .i64 0, .int .i64 0, .slice none 0 0]) (cs' := [.int .i64 0, .int .i64 0, .slice none 0 0]) E1501 H rfl rfl rfl rfl ti28 rfl rfl rfl rfl rfl rfl fun w1504 a1502 E1503 H' => ?_)
    clear H E1501; have H := H'; clear H'
    refine wl_cons (wl_val E1503 rfl (rn_assign E1503 rfl rfl) rfl fun a1505 E1506 => ?_)
    clear E1503
    refine wl_cons (wl_val E1506 rfl (rn_assign E1506 rfl rfl) rfl fun a1507 E1508 => ?_)
    clear E1506
    refine wl_nil ?_
    refine then_normal (hK1497 _ _ ?_)
    refine wp_ret ?_
    refine then_ret (?_)
    refine wb_ret3 E1508 rfl (rv_cellN (cs := [.int .i64 0, .int .i64 0, .slice none 0 0]) E1508 rfl Try.underlying28 rfl ti28 (H.get (i := 7) (k := 0) rfl rfl) rfl) (rv_tmp E1508 rfl) (rv_tmp E1508 rfl) ⟨_, rfl, ?_⟩
    have E1509 := Env.put E823 (d := 14) rfl (.tuple #[.agg #[.int .i64 0, .int .i64 0, .slice none 0 0], .bool false, .int .i64 3])
    generalize hae : Act.put _ (some 14) _ = a1510 at E1509 ⊢; clear hae
    refine wl_cons (wl_val E1509 rfl (rn_move E1509 rfl rfl) rfl fun a1511 E1512 => ?_)
    clear E1509
    refine wl_cons (wl_val E1512 rfl (rn_extract E1512 rfl rfl rfl) rfl fun a1513 E1514 => ?_)
    clear E1512
    refine wl_cons (wl_val E1514 rfl (rn_extract E1514 rfl rfl rfl) rfl fun a1515 E1516 => ?_)
    clear E1514
    refine wl_cons (wl_val E1516 rfl (rn_extract E1516 rfl rfl rfl) rfl fun a1517 E1518 => ?_)
    clear E1516
    refine wl_cons (wl_store (i := 3) (vs := [.int .i64 0, .int .i64 0, .slice none 0 0]) (cs' := [.int .i64 0, .int .i64 0, .slice none 0 0]) E1518 H rfl rfl rfl rfl ti28 rfl rfl rfl rfl rfl rfl fun w1521 a1519 E1520 H' => ?_)
    clear H E1518; have H := H'; clear H'
    refine wl_cons (wl_val E1520 rfl (rn_assign E1520 rfl rfl) rfl fun a1522 E1523 => ?_)
    clear E1520
    refine wl_cons (wl_val E1523 rfl (rn_assign E1523 rfl rfl) rfl fun a1524 E1525 => ?_)
    clear E1523
    refine wl_nil ?_
    refine then_normal (hK817 _ _ ?_)
    refine wp_seq_k fun _ hK1526 => ?_
    refine wp_region_lit ?_
    refine wl_cons (wl_val E1525 rfl (rn_ldN (i := 3) [.int .i64 0, .int .i64 0, .slice none 0 0] E1525 H rfl Try.underlying28 rfl ti28 rfl rfl rfl rfl) rfl fun a1527 E1528 => ?_)
    clear E1525
    refine wl_cons (wl_val E1528 rfl (rn_move E1528 rfl rfl) rfl fun a1529 E1530 => ?_)
    clear E1528
    refine wl_cons (wl_store (i := 5) (vs := [.int .i64 0, .int .i64 0, .slice none 0 0]) (cs' := [.int .i64 0, .int .i64 0, .slice none 0 0]) E1530 H rfl rfl rfl rfl ti28 rfl rfl rfl rfl rfl rfl fun w1533 a1531 E1532 H' => ?_)
    clear H E1530; have H := H'; clear H'
    replace H : St w Nil Z w1533 [vw (kSlice 38 k_api_Process) a0.Processes [.slice p773 a0.Processes.length c774]] [[blk g778 [.int .i64 a0.Next, .int .i64 a0.NextSession, .slice p773 a0.Processes.length c774] 28], [blk g782 [.int .i64 a2] 3], [blk g786 [.int .i64 0, .int .i64 0, .slice none 0 0] 28], [blk g803 [.int .i64 0, .int .i64 0, .slice none 0 0] 28], [blk g807 [.func (.func 35) #[] #[.pointer (some ⟨g782, 0, none⟩)]] 68], [blk g811 [.int .i64 0, .int .i64 0, .slice none 0 0] 28], [blk g828 [.int .i64 a0.Next, .int .i64 a0.NextSession, .slice p773 a0.Processes.length c774] 28], [blk g832 [.int .i64 0, .int .i64 0, .slice none 0 0] 28]] := H
    refine wl_cons (wl_val E1532 rfl (rn_assign E1532 rfl rfl) rfl fun a1534 E1535 => ?_)
    clear E1532
    refine wl_nil ?_
    refine then_normal (hK1526 _ _ ?_)
    refine wp_ret ?_
    refine ?_
    refine wb_ret2 E1535 rfl (rv_cellN (cs := [.int .i64 0, .int .i64 0, .slice none 0 0]) E1535 rfl Try.underlying28 rfl ti28 (H.get (i := 5) (k := 0) rfl rfl) rfl) (rv_tmp E1535 rfl) ⟨_, rfl, ?_⟩
    have E1536 := Env.put E798 (d := 11) rfl (.tuple #[.agg #[.int .i64 0, .int .i64 0, .slice none 0 0], .int .i64 3])
    generalize hae : Act.put _ (some 11) _ = a1537 at E1536 ⊢; clear hae
    refine wl_cons (wl_val E1536 rfl (rn_extract E1536 rfl rfl rfl) rfl fun a1538 E1539 => ?_)
    clear E1536
    refine wl_cons (wl_val E1539 rfl (rn_extract E1539 rfl rfl rfl) rfl fun a1540 E1541 => ?_)
    clear E1539
    refine wl_cons (wl_store (i := 2) (vs := [.int .i64 0, .int .i64 0, .slice none 0 0]) (cs' := [.int .i64 0, .int .i64 0, .slice none 0 0]) E1541 H rfl rfl rfl rfl ti28 rfl rfl rfl rfl rfl rfl fun w1544 a1542 E1543 H' => ?_)
    clear H E1541; have H := H'; clear H'
    refine wl_cons (wl_val E1543 rfl (rn_assign E1543 rfl rfl) rfl fun a1545 E1546 => ?_)
    clear E1543
    refine wl_nil ?_
    refine then_normal (hK792 _ _ ?_)
    refine wp_ret ?_
    refine ?_
    obtain rfl := Option.some.inj h
    replace H := H.nilRow 38 k_api_Process
    replace H : St w Nil Z w1544 [vw (kSlice 38 k_api_Process) a0.Processes [.slice p773 a0.Processes.length c774]] [[blk g778 [.int .i64 a0.Next, .int .i64 a0.NextSession, .slice p773 a0.Processes.length c774] 28], [blk g782 [.int .i64 a2] 3], [blk g786 [.int .i64 0, .int .i64 0, .slice none 0 0] 28], [blk g803 [.int .i64 0, .int .i64 0, .slice none 0 0] 28], [blk g807 [.func (.func 35) #[] #[.pointer (some ⟨g782, 0, none⟩)]] 68], [blk g811 [.int .i64 0, .int .i64 0, .slice none 0 0] 28], [blk g828 [.int .i64 a0.Next, .int .i64 a0.NextSession, .slice p773 a0.Processes.length c774] 28], [blk g832 [.int .i64 0, .int .i64 0, .slice none 0 0] 28], [row 38 k_api_Process ([] : List api_Process) (.slice none 0 0)]] := H
    refine wb_ret2 E1546 rfl (rv_cellN (cs := [.int .i64 0, .int .i64 0, .slice none 0 0]) E1546 rfl Try.underlying28 rfl ti28 (H.get (i := 2) (k := 0) rfl rfl) rfl) (rv_tmp E1546 rfl) ?_
    exact ⟨_, rfl, [], [[row 38 k_api_Process ([] : List api_Process) (.slice none 0 0)]], ⟨_, _, rfl, rfl, rfl⟩, H.leave (fun Z hA => trivial) (fun Z S hA hL => Holds_sub (.cons _ (.cons _ (.cons _ (.cons _ (.cons _ (.cons _ (.cons _ (.cons _ (.cons_cons _ .slnil))))))))) hL)⟩
end Go.Proofs.Ytanimjbmkhpnaaa.Gx
