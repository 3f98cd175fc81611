/- RotateNumbers: the plain law, with what it wants of ascending lists and of numbers of names. -/
import Derived.Test.YtgcigcbhilcgoaaDoorRBack
import Derived.Test.YtgcigcbhilcgoaaDoorY7
namespace Go.Proofs.YtgcigcbhilcgoaaDoor.Gx
open Go.Gx Go.RowKit
set_option maxRecDepth 100000
def Bytes (l : List Int) : Prop := ∀ c ∈ l, 0 ≤ c ∧ c < 256
theorem int_ok (l : List Int) (a n : Int) (hl : l.length ≤ 1000) (hb : Bytes l) (h0 : 0 ≤ a) (h1 : a ≤ 1000) (hn : 1 ≤ n) : ∃ v a', f_kauditmill_Case_Int ⟨l, a⟩ n = some (v, a') ∧ 0 ≤ v ∧ v < n ∧ 0 ≤ a' ∧ a' ≤ 1000 := by
  unfold f_kauditmill_Case_Int
  by_cases h : n < 2
  · exact ⟨0, a, ite_t (by simpa using h) rfl, by omega, by omega, h0, h1⟩
  · by_cases h2 : a ≥ (l.length : Int)
    · exact ⟨0, a, ite_f (by simpa using h) (ite_t (by simpa using h2) rfl), by omega, by omega, h0, h1⟩
    · obtain ⟨j, rfl⟩ := Int.eq_ofNat_of_zero_le h0
      obtain ⟨u, hu, mu⟩ := got (l := l) (i := j) (by omega)
      have b := hb u mu
      have e : IntKind.wrap .i64 ((IntKind.wrap .i64 ((j : Int) + 1)) - 1) = (j : Int) := by rw [wrap_id (n := (j : Int) + 1) (by omega) (by omega), wrap_id (by omega) (by omega)]; omega
      refine ⟨u.tmod n, (j : Int) + 1, ite_f (by simpa using h) (ite_f (by simpa using h2) ?_), ?_, ?_, by omega, by omega⟩
      · show (at_ l (IntKind.wrap .i64 ((IntKind.wrap .i64 ((j : Int) + 1)) - 1))).bind _ = _
        rw [e]
        refine bind_of (at_nat hu) (ck_of (by omega) ?_)
        show some (((IntKind.wrap .i64 u) : Int).tmod n, IntKind.wrap .i64 ((j : Int) + 1)) = _
        rw [wrap_id (n := u) (by omega) (by omega), wrap_id (by omega) (by omega)]
      · exact Int.tmod_nonneg _ b.1
      · exact Int.tmod_lt_of_pos _ (by omega)
theorem cut_bytes {l : List Int} (hb : Bytes l) (k : Int) : Bytes (cut l 0 k) ∧ (cut l 0 k).length ≤ k.toNat := by
  unfold cut
  refine ⟨fun c hc => hb c (List.mem_of_mem_take (by simpa using hc)), ?_⟩
  simp; omega
def asc (l : List Int) : Prop := l.Pairwise fun a b => a < b
/-- A number into a list, once. -/
def insF (n : Int) : List Int → List Int
  | [] => [n]
  | x :: xs => if n ≤ x then n :: (x :: xs).filter (fun y => y != n) else x :: insF n xs
theorem drop_up {α : Type} {l : List α} {i : Nat} {u : α} (h : l[i]? = some u) : l.drop i = u :: l.drop (i + 1) := by
  obtain ⟨hi, rfl⟩ := List.getElem?_eq_some_iff.1 h
  exact List.drop_eq_getElem_cons hi
def roomy (n : Nat) : Prop := n ≤ 1000000000000
theorem fits8 {n : Nat} (h : roomy n) : fits (n + 1) 8 = true := by unfold fits roomy at *; simp only [decide_eq_true_eq]; omega
theorem add_loop (l : List Int) (n : Int) (hl : l.length ≤ 100000000000) : ∀ (k i : Nat) (out : List Int) (d : Bool), l.length - i + 1 ≤ k → i ≤ l.length → out.length ≤ 2 * i + 1 →
    f_kauditref26_Add_l1 l n k out d i = some (out ++ (if d = true then (l.drop i).filter (fun y => y != n) else insF n (l.drop i))) := by
  intro k
  induction k with
  | zero => intro i out d h; omega
  | succ k ih =>
    intro i out d hk hi ho
    rw [f_kauditref26_Add_l1]
    by_cases h : i < l.length
    · obtain ⟨u, hu, _⟩ := got h
      refine ite_t (by simp only [decide_eq_true_eq]; omega) (bind_of (at_nat hu) ?_)
      have ju : ∀ (out : List Int) (d : Bool), out.length ≤ 2 * i + 2 → f_kauditref26_Add_j1 n i u (f_kauditref26_Add_l1 l n k) out d = some (out ++ (if u != n then [u] else []) ++ (if d = true then (l.drop (i + 1)).filter (fun y => y != n) else insF n (l.drop (i + 1)))) := by
        intro out d ho
        unfold f_kauditref26_Add_j1
        rw [up (by omega)]
        by_cases e : u = n
        · refine ite_f (by simp [e]) ((ih (i + 1) out d (by omega) (by omega) (by omega)).trans ?_)
          simp [e]
        · refine ite_t (by simpa using e) (ck_of (fits8 (by unfold roomy; omega)) ((ih (i + 1) (out ++ [u]) d (by omega) (by omega) (by simp; omega)).trans ?_))
          simp [e]
      rw [drop_up hu]
      cases d with
      | true =>
        refine ite_t rfl ((ju out true (by omega)).trans ?_)
        by_cases e : u = n <;> simp [e]
      | false =>
        refine ite_f rfl ?_
        by_cases e : n ≤ u
        · refine ite_t (by simpa using e) (ck_of (fits8 (by unfold roomy; omega)) ((ju (out ++ [n]) true (by simp; omega)).trans ?_))
          by_cases e2 : u = n
          · simp [insF, e2]
          · simp [insF, e, e2]
        · refine ite_f (by simpa using e) ((ju out false (by omega)).trans ?_)
          have e2 : u ≠ n := by omega
          simp [insF, e, e2]
    · refine ite_f (by simp only [decide_eq_false_iff_not]; omega) ?_
      obtain rfl : i = l.length := by omega
      unfold f_kauditref26_Add_j2
      rw [List.drop_length]
      cases d with
      | true => exact ite_t rfl (by simp)
      | false => exact ite_f rfl (ck_of (fits8 (by unfold roomy; omega)) (by simp [insF]))
theorem add_ok (l : List Int) (n : Int) (hl : l.length ≤ 100000000000) : f_kauditref26_Add l n = some (insF n l) := by
  unfold f_kauditref26_Add
  have := add_loop l n hl ((((l.length : Int) : Int) - 0).toNat + 1) 0 [] false (by omega) (by omega) (by simp)
  simpa using this
theorem mem_insF (n x : Int) : ∀ l : List Int, x ∈ insF n l ↔ x = n ∨ x ∈ l
  | [] => by simp [insF]
  | y :: ys => by
    unfold insF
    split
    · simp only [List.mem_cons, List.mem_filter, bne_iff_ne, ne_eq]
      constructor
      · rintro (h | ⟨h, _⟩)
        · exact .inl h
        · exact .inr h
      · rintro (h | h)
        · exact .inl h
        · by_cases e : x = n
          · exact .inl e
          · exact .inr ⟨h, e⟩
    · rw [List.mem_cons, mem_insF n x ys, List.mem_cons]
      constructor
      · rintro (h | h | h)
        · exact .inr (.inl h)
        · exact .inl h
        · exact .inr (.inr h)
      · rintro (h | h | h)
        · exact .inr (.inl h)
        · exact .inl h
        · exact .inr (.inr h)
theorem asc_insF (n : Int) : ∀ l : List Int, asc l → asc (insF n l)
  | [], _ => List.pairwise_singleton _ _
  | y :: ys, h => by
    unfold asc at h
    rw [List.pairwise_cons] at h
    unfold insF
    split
    · rename_i hn
      unfold asc
      rw [List.pairwise_cons]
      refine ⟨fun b hb => ?_, (List.pairwise_cons.2 h).filter _⟩
      have hb2 := List.mem_filter.1 hb
      have hne : b ≠ n := by simpa using hb2.2
      rcases List.mem_cons.1 hb2.1 with rfl | k
      · omega
      · have := h.1 b k; omega
    · rename_i hn
      unfold asc
      rw [List.pairwise_cons]
      refine ⟨fun b hb => ?_, asc_insF n ys h.2⟩
      rcases (mem_insF n b ys).1 hb with rfl | k
      · omega
      · exact h.1 b k
theorem len_insF (n : Int) : ∀ l : List Int, (insF n l).length ≤ l.length + 1
  | [] => by simp [insF]
  | y :: ys => by
    unfold insF
    split
    · have := List.length_filter_le (fun y => y != n) (y :: ys)
      simp only [List.length_cons] at *; omega
    · have := len_insF n ys
      simp only [List.length_cons]; omega
theorem unique_asc {l : List Int} (h : asc l) (hl : l.length ≤ 100000000000) : f_rotate_unique_int l = some l := by
  unfold f_rotate_unique_int f_slices_Clone_int_int f_slices_Sort_int_int f_slices_Compact_int_int
  refine bind_of (ck_of (by unfold fits; simp only [decide_eq_true_eq]; omega) rfl) (bind_of (y := l) (ck_of (by omega) ?_) (bind_of (y := l) (ck_of (by omega) ?_) rfl))
  · congr 1
    refine List.mergeSort_of_pairwise ?_
    exact h.imp fun k => by simpa using Int.le_of_lt k
  · congr 1
    refine Lib.compact_all l fun j hj => ?_
    unfold Lib.keeps
    rw [decide_eq_true_eq]
    by_cases e : j = 0
    · exact .inl e
    · right
      have := List.pairwise_iff_getElem.1 h (j - 1) j (by omega) hj (by omega)
      rw [getElem!_pos _ j (by simpa using hj), getElem!_pos _ (j - 1) (by simp; omega)]
      simp only [List.getElem_toArray]
      omega
def small (s : ByteArray) : Prop := s.size ≤ 9223372036854775807
theorem bext {a b : ByteArray} (e : a.toList = b.toList) : a = b := by
  apply ByteArray.ext
  apply Array.ext'
  simpa [ByteArray.toList_eq] using e
def Zs : ByteArray := ⟨#[46, 122]⟩
def hz (s : ByteArray) : Bool := decide (2 ≤ s.size) && ((s.extract (s.size - 2) s.size).toList == Zs.toList)
theorem cutS (s : ByteArray) (hs : small s) : f_strings_CutSuffix s (⟨#[46, 122]⟩ : ByteArray) = some (if hz s = true then (s.extract 0 (s.size - 2), true) else (s, false)) := by
  unfold small at hs
  have e2 : ((⟨#[46, 122]⟩ : ByteArray).size : Int) = 2 := rfl
  unfold f_strings_CutSuffix f_stringslite_CutSuffix f_stringslite_HasSuffix hz
  rw [e2]
  by_cases h : 2 ≤ s.size
  · have w : IntKind.wrap .i64 ((s.size : Int) - 2) = ((s.size - 2 : Nat) : Int) := by rw [wrap_id (by omega) (by omega)]; omega
    have c1 : subStr s ((s.size - 2 : Nat) : Int) (s.size : Int) = some (s.extract (s.size - 2) s.size) := by unfold subStr; rw [if_pos ⟨by omega, by omega, by omega⟩]; simp
    have c2 : subStr s 0 ((s.size - 2 : Nat) : Int) = some (s.extract 0 (s.size - 2)) := by unfold subStr; rw [if_pos ⟨by omega, by omega, by omega⟩]; simp
    rw [w, c1, c2]
    have d : decide ((s.size : Int) ≥ 2) = true := by rw [decide_eq_true_eq]; omega
    rw [if_pos d]
    simp only [h, decide_true, Bool.true_and, Option.bind_some]
    show (if ((s.extract (s.size - 2) s.size).toList == Zs.toList) = true then _ else _ : Option (ByteArray × Bool)).bind _ = _
    cases (s.extract (s.size - 2) s.size).toList == Zs.toList <;> rfl
  · have d : ¬ decide ((s.size : Int) ≥ 2) = true := by rw [decide_eq_true_eq]; omega
    rw [if_neg d]
    simp only [h, decide_false, Bool.false_and]
    rfl
theorem name_tot (z : Int) : ∃ s, f_rotate_Name z = some s ∧ f_kauditref26_Name z = some s ∧ s.size ≤ 8 ∧ ((s.size ≠ 0 → ∃ n : Nat, 1 ≤ n ∧ n ≤ 1000 ∧ z = n)) := by
  by_cases h1 : z < 1
  · exact ⟨⟨#[]⟩, ite_t (by simpa using h1) rfl, ite_t (by simpa using h1) rfl, by decide, fun h => absurd rfl h⟩
  · by_cases h2 : z > 1000
    · exact ⟨⟨#[]⟩, ite_f (by simpa using h1) (ite_t (by simpa using h2) rfl), ite_f (by simpa using h1) (ite_t (by simpa using h2) rfl), by decide, fun h => absurd rfl h⟩
    · obtain ⟨n, rfl⟩ := Int.eq_ofNat_of_zero_le (show 0 ≤ z by omega)
      obtain ⟨s, t, N⟩ := nm_of (n := n) (by omega) (by omega)
      exact ⟨s, N.name, N.rname, by rw [N.size]; omega, fun _ => ⟨n, by omega, by omega, rfl⟩⟩
theorem packed_tot (z : Int) : ∃ s, f_rotate_Packed z = some s ∧ f_kauditref26_Packed z = some s ∧ s.size ≤ 10 := by
  obtain ⟨s, h1, h2, h3, _⟩ := name_tot z
  by_cases e : (s.toList == (⟨#[]⟩ : ByteArray).toList) = true
  · exact ⟨⟨#[]⟩, by unfold f_rotate_Packed; exact bind_of h1 (ite_t e rfl), by unfold f_kauditref26_Packed; exact bind_of h2 (ite_t e rfl), by decide⟩
  · have e' : (s.toList == (⟨#[]⟩ : ByteArray).toList) = false := by simpa using e
    have sz : (⟨#[46, 122]⟩ : ByteArray).size = 2 := rfl
    refine ⟨s ++ ⟨#[46, 122]⟩, ?_, ?_, by rw [ByteArray.size_append, sz]; omega⟩
    · unfold f_rotate_Packed; exact bind_of h1 (ite_f e' (ck_of (by rw [sz]; unfold maxStr; omega) rfl))
    · unfold f_kauditref26_Packed; exact bind_of h2 (ite_f e' (ck_of (by rw [sz]; unfold maxStr; omega) rfl))
def fine (q : ByteArray) (pk : Bool) (R : Int × Bool × Bool) : Prop := R = (0, false, false) ∨ ∃ n : Nat, 1 ≤ n ∧ n ≤ 1000 ∧ R = ((n : Int), true, pk) ∧ f_rotate_Name n = some q
theorem numP_tot (q : ByteArray) (pk : Bool) (hq : small q) : ∃ R, numP q pk = some R ∧ fine q pk R := by
  unfold small at hq
  have e4 : ((⟨#[108, 111, 103, 45]⟩ : ByteArray).size : Int) = 4 := rfl
  unfold numP numG f_strings_CutPrefix f_stringslite_CutPrefix f_stringslite_HasPrefix
  rw [e4]
  by_cases h : 4 ≤ q.size
  · have c1 : subStr q 0 4 = some (q.extract 0 4) := by unfold subStr; rw [if_pos ⟨by omega, by omega, by omega⟩]; rfl
    have c2 : subStr q 4 (q.size : Int) = some (q.extract 4 q.size) := by unfold subStr; rw [if_pos ⟨by omega, by omega, by omega⟩]; simp
    have d : decide ((q.size : Int) ≥ 4) = true := by rw [decide_eq_true_eq]; omega
    rw [if_pos d, c1, c2]
    simp only [Option.bind_some]
    cases (q.extract 0 4).toList == (⟨#[108, 111, 103, 45]⟩ : ByteArray).toList with
    | false => exact ⟨_, rfl, .inl rfl⟩
    | true =>
      simp only [if_true, Option.bind_some]
      generalize q.extract 4 q.size = r
      by_cases h8 : (r.size : Int) = 4
      · rw [if_neg (by simp [h8])]
        unfold f_strconv_Atoi
        rw [ck_true (by omega)]
        simp only [Option.bind_some]
        cases Lib.atoi r.data.toList with
        | none => exact ⟨_, rfl, .inl rfl⟩
        | some n =>
          simp only [Bool.false_eq_true, if_false]
          by_cases hn : n < 1
          · exact ⟨_, ite_t (by simpa using hn) rfl, .inl rfl⟩
          · obtain ⟨s, s1, s2, s3, s4⟩ := name_tot n
            rw [if_neg (by simpa using hn), s1]
            simp only [Option.bind_some]
            by_cases e : (s.toList == q.toList) = true
            · have e' : s = q := bext (by simpa using e)
              subst e'
              obtain ⟨m, m1, m2, rfl⟩ := s4 (by omega)
              exact ⟨_, ite_t e rfl, .inr ⟨m, m1, m2, rfl, s1⟩⟩
            · exact ⟨_, ite_f (by simpa using e) rfl, .inl rfl⟩
      · rw [if_pos (by simpa using h8)]
        exact ⟨_, rfl, .inl rfl⟩
  · have d : ¬ decide ((q.size : Int) ≥ 4) = true := by rw [decide_eq_true_eq]; omega
    rw [if_neg d]
    exact ⟨_, rfl, .inl rfl⟩
theorem ref_l1 (q : ByteArray) (pk : Bool) (hq : q.size = 8) : ∀ (k i : Nat) (x : Int), 8 - i + 1 ≤ k → i ≤ 8 → ∃ R, f_kauditref26_Number_l1 q pk k x i = some R ∧ fine q pk R := by
  intro k
  induction k with
  | zero => intro i x h; omega
  | succ k ih =>
    intro i x hk hi
    rw [f_kauditref26_Number_l1]
    by_cases h : i < 8
    · have hc : ∃ c, byteAt q (i : Int) = some c := by
        unfold byteAt
        rw [if_pos (by omega), Int.toNat_natCast]
        have : i < q.size := by omega
        rw [getElem?_pos q i this]
        exact ⟨_, rfl⟩
      obtain ⟨c, hc⟩ := hc
      rw [if_pos (by simp only [decide_eq_true_eq]; omega), hc]
      simp only [Option.bind_some]
      by_cases h1 : c < 48
      · exact ⟨_, ite_t (by simpa using h1) rfl, .inl rfl⟩
      · by_cases h2 : c > 57
        · exact ⟨_, ite_f (by simpa using h1) (ite_t (by simpa using h2) rfl), .inl rfl⟩
        · rw [if_neg (by simpa using h1), if_neg (by simpa using h2), up (by omega)]
          exact ih (i + 1) _ (by omega) (by omega)
    · rw [if_neg (by simp only [decide_eq_true_eq]; omega)]
      unfold f_kauditref26_Number_j2
      obtain ⟨s, s1, s2, s3, s4⟩ := name_tot x
      rw [s2]
      simp only [Option.bind_some]
      by_cases e : (s.toList == q.toList) = true
      · have e' : s = q := bext (by simpa using e)
        subst e'
        obtain ⟨m, m1, m2, rfl⟩ := s4 (by omega)
        exact ⟨_, ite_t e rfl, .inr ⟨m, m1, m2, rfl, s1⟩⟩
      · exact ⟨_, ite_f (by simpa using e) rfl, .inl rfl⟩
theorem refP_tot (q : ByteArray) (pk : Bool) : ∃ R, f_kauditref26_Number_j1 q pk = some R ∧ fine q pk R := by
  unfold f_kauditref26_Number_j1
  by_cases h : (q.size : Int) = 8
  · rw [if_neg (by simp [h])]
    exact ref_l1 q pk (by omega) _ 4 0 (by omega) (by omega)
  · exact ⟨_, ite_t (by simpa using h) rfl, .inl rfl⟩
theorem both (q : ByteArray) (pk : Bool) (hq : small q) : ∃ R, numP q pk = some R ∧ f_kauditref26_Number_j1 q pk = some R ∧ fine q pk R := by
  obtain ⟨R, r1, r2⟩ := numP_tot q pk hq
  obtain ⟨R', r1', r2'⟩ := refP_tot q pk
  by_cases h : ∃ n : Nat, 1 ≤ n ∧ n ≤ 1000 ∧ f_rotate_Name n = some q
  · obtain ⟨n, n1, n2, hn⟩ := h
    obtain ⟨s, t, N⟩ := nm_of n1 n2
    obtain rfl : s = q := Option.some.inj (N.name.symm.trans hn)
    exact ⟨_, N.num pk, N.rnum pk, .inr ⟨n, n1, n2, rfl, hn⟩⟩
  · rcases r2 with rfl | ⟨n, n1, n2, _, hn⟩
    · rcases r2' with rfl | ⟨n, n1, n2, _, hn⟩
      · exact ⟨_, r1, r1', .inl rfl⟩
      · exact absurd ⟨n, n1, n2, hn⟩ h
    · exact absurd ⟨n, n1, n2, hn⟩ h
/-- A name has eight bytes. -/
theorem not_name {q : ByteArray} {pk : Bool} {R : Int × Bool × Bool} (h : fine q pk R) (hs : q.size ≠ 8) : R = (0, false, false) := by
  rcases h with h | ⟨n, n1, n2, _, hn⟩
  · exact h
  · obtain ⟨s, t, N⟩ := nm_of n1 n2
    obtain rfl : s = q := Option.some.inj (N.name.symm.trans hn)
    exact absurd N.size hs
theorem number_same (s : ByteArray) (hs : small s) : ∃ R, f_rotate_Number s = some R ∧ f_kauditref26_Number s = some R ∧ (R = (0, false, false) ∨ (1 ≤ R.1 ∧ R.1 ≤ 1000)) := by
  have fin : ∀ {q pk R}, fine q pk R → (R = (0, false, false) ∨ (1 ≤ R.1 ∧ R.1 ≤ 1000)) := by
    rintro q pk R (h | ⟨n, n1, n2, rfl, _⟩)
    · exact .inl h
    · exact .inr ⟨by show (1 : Int) ≤ n; omega, by show (n : Int) ≤ 1000; omega⟩
  have hN : f_rotate_Number s = (some (if hz s = true then (s.extract 0 (s.size - 2), true) else (s, false)) : Option (ByteArray × Bool)).bind fun y5 => numP y5.1 y5.2 := by
    rw [number_eq, cutS s hs]
  have hsz := hs
  unfold small at hsz
  rw [hN, Option.bind_some]
  unfold f_kauditref26_Number
  by_cases h10 : s.size = 10
  · have c1 : subStr s 8 (s.size : Int) = some (s.extract 8 10) := by unfold subStr; rw [if_pos ⟨by omega, by omega, by omega⟩, h10]; rfl
    have c2 : subStr s 0 8 = some (s.extract 0 8) := by unfold subStr; rw [if_pos ⟨by omega, by omega, by omega⟩]; rfl
    rw [if_pos (show ((s.size : Int) == 10) = true by simp [h10]), c1, c2]
    simp only [Option.bind_some]
    have hzs : hz s = ((s.extract 8 10).toList == Zs.toList) := by unfold hz; rw [h10]; rfl
    by_cases e : hz s = true
    · rw [if_pos e, if_pos (show ((s.extract 8 10).toList == (⟨#[46, 122]⟩ : ByteArray).toList) = true by rw [hzs] at e; exact e), h10]
      obtain ⟨R, r1, r2, r3⟩ := both (s.extract 0 8) true (by unfold small; rw [ByteArray.size_extract]; omega)
      exact ⟨R, r1, r2, fin r3⟩
    · rw [if_neg e, if_neg (show ¬ ((s.extract 8 10).toList == (⟨#[46, 122]⟩ : ByteArray).toList) = true by rw [hzs] at e; exact e)]
      obtain ⟨R, r1, r2, r3⟩ := both s false hs
      exact ⟨R, r1, r2, fin r3⟩
  · rw [if_neg (show ¬ ((s.size : Int) == 10) = true by simp; omega)]
    obtain ⟨R, r1, r2, r3⟩ := both s false hs
    by_cases e : hz s = true
    · rw [if_pos e]
      have h2 : 2 ≤ s.size := by
        unfold hz at e
        simp only [Bool.and_eq_true, decide_eq_true_eq] at e
        exact e.1
      obtain ⟨R', r1', _, r3'⟩ := both (s.extract 0 (s.size - 2)) true (by unfold small; rw [ByteArray.size_extract]; omega)
      have hR' := not_name r3' (by rw [ByteArray.size_extract]; omega)
      subst hR'
      refine ⟨_, r1', ?_, .inl rfl⟩
      rw [r2]
      rcases r3 with rfl | ⟨n, n1, n2, rfl, hn⟩
      · rfl
      · obtain ⟨s', t, N⟩ := nm_of n1 n2
        obtain rfl : s' = s := Option.some.inj (N.name.symm.trans hn)
        have := N.number
        rw [hN, Option.bind_some, if_pos e, r1'] at this
        simp at this
    · rw [if_neg e]
      exact ⟨R, r1, r2, fin r3⟩
theorem strict_ext : ∀ {l m : List Int}, asc l → asc m → (∀ x, x ∈ l ↔ x ∈ m) → l = m
  | [], [], _, _, _ => rfl
  | [], y :: ys, _, _, h => absurd ((h y).2 (List.mem_cons_self ..)) (by simp)
  | x :: xs, [], _, _, h => absurd ((h x).1 (List.mem_cons_self ..)) (by simp)
  | x :: xs, y :: ys, hl, hm, h => by
    unfold asc at hl hm
    rw [List.pairwise_cons] at hl hm
    have e : x = y := by
      rcases List.mem_cons.1 ((h x).1 (List.mem_cons_self ..)) with k | k
      · exact k
      · rcases List.mem_cons.1 ((h y).2 (List.mem_cons_self ..)) with k2 | k2
        · exact k2.symm
        · have := hm.1 x k; have := hl.1 y k2; omega
    subst e
    rw [strict_ext hl.2 hm.2 fun z => ?_]
    constructor
    · intro hz
      rcases List.mem_cons.1 ((h z).1 (List.mem_cons_of_mem _ hz)) with k | k
      · have := hl.1 z hz; omega
      · exact k
    · intro hz
      rcases List.mem_cons.1 ((h z).2 (List.mem_cons_of_mem _ hz)) with k | k
      · have := hm.1 z hz; omega
      · exact k
theorem asc_len : ∀ (l : List Int) (a b : Int), asc l → (∀ x ∈ l, a ≤ x ∧ x ≤ b) → (l.length : Int) ≤ max 0 (b - a + 1)
  | [], _, _, _, _ => by simp; omega
  | x :: xs, a, b, h, hb => by
    unfold asc at h
    rw [List.pairwise_cons] at h
    have h0 := hb x (List.mem_cons_self ..)
    have := asc_len xs (x + 1) b h.2 fun y hy => ⟨by have := h.1 y hy; omega, (hb y (List.mem_cons_of_mem _ hy)).2⟩
    simp only [List.length_cons]
    omega
theorem compact_sorted (zs : List Int) (h : zs.Pairwise fun a b => a ≤ b) : asc (Lib.compact zs) ∧ ∀ x, x ∈ Lib.compact zs ↔ x ∈ zs := by
  have get : ∀ j, (hj : j < zs.length) → zs.toArray[j]! = zs[j] := fun j hj => by
    rw [getElem!_pos _ j (by simpa using hj)]; simp
  have key : ∀ m, m ≤ zs.length → asc (Lib.compactUpTo zs.toArray m) ∧ ∀ x, x ∈ Lib.compactUpTo zs.toArray m ↔ ∃ j, j < m ∧ zs[j]? = some x := by
    intro m
    induction m with
    | zero => intro _; exact ⟨List.Pairwise.nil, fun x => ⟨fun k => by simp [Lib.compactUpTo] at k, fun ⟨j, hj, _⟩ => by omega⟩⟩
    | succ m ih =>
      intro hm
      obtain ⟨i1, i2⟩ := ih (by omega)
      have hlt : m < zs.length := by omega
      rw [Lib.compactUpTo_succ]
      have split : ∀ x, (∃ j, j < m + 1 ∧ zs[j]? = some x) ↔ (∃ j, j < m ∧ zs[j]? = some x) ∨ x = zs[m] := by
        intro x
        constructor
        · rintro ⟨j, hj, e⟩
          by_cases k : j = m
          · subst k; rw [List.getElem?_eq_getElem hlt] at e; exact .inr (Option.some.inj e).symm
          · exact .inl ⟨j, by omega, e⟩
        · rintro (⟨j, hj, e⟩ | rfl)
          · exact ⟨j, by omega, e⟩
          · exact ⟨m, by omega, List.getElem?_eq_getElem hlt⟩
      by_cases hk : Lib.keeps zs.toArray m = true
      · rw [if_pos hk, get m hlt]
        have hk' : m = 0 ∨ zs.toArray[m]! ≠ zs.toArray[m - 1]! := by unfold Lib.keeps at hk; simpa using hk
        refine ⟨?_, fun x => ?_⟩
        · unfold asc
          rw [List.pairwise_append]
          refine ⟨i1, List.pairwise_singleton _ _, fun a ha b hb => ?_⟩
          obtain rfl := List.mem_singleton.1 hb
          obtain ⟨j, hj, e⟩ := (i2 a).1 ha
          obtain ⟨hj', rfl⟩ := List.getElem?_eq_some_iff.1 e
          have hm0 : m ≠ 0 := by omega
          have hne := hk'.resolve_left hm0
          rw [get m hlt, get (m - 1) (by omega)] at hne
          have h1 : zs[m - 1] ≤ zs[m] := List.pairwise_iff_getElem.1 h (m - 1) m (by omega) hlt (by omega)
          by_cases k : j = m - 1
          · subst k; omega
          · have h2 : zs[j] ≤ zs[m - 1] := List.pairwise_iff_getElem.1 h j (m - 1) hj' (by omega) (by omega)
            omega
        · rw [List.mem_append, i2, split, List.mem_singleton]
      · rw [if_neg hk, List.append_nil]
        have hk' : ¬ (m = 0 ∨ zs.toArray[m]! ≠ zs.toArray[m - 1]!) := by unfold Lib.keeps at hk; simpa using hk
        have hm0 : m ≠ 0 := fun e => hk' (.inl e)
        have he : zs.toArray[m]! = zs.toArray[m - 1]! := Classical.byContradiction fun e => hk' (.inr e)
        rw [get m hlt, get (m - 1) (by omega)] at he
        refine ⟨i1, fun x => ?_⟩
        rw [i2, split]
        constructor
        · exact .inl
        · rintro (k | rfl)
          · exact k
          · exact ⟨m - 1, by omega, by rw [List.getElem?_eq_getElem (by omega), he]⟩
  obtain ⟨k1, k2⟩ := key zs.length (Nat.le_refl _)
  refine ⟨k1, fun x => (k2 x).trans ?_⟩
  constructor
  · rintro ⟨j, _, e⟩; exact List.mem_of_getElem? e
  · intro hx
    obtain ⟨j, hj, rfl⟩ := List.mem_iff_getElem.1 hx
    exact ⟨j, hj, List.getElem?_eq_getElem hj⟩
theorem unique_any (l : List Int) (hl : l.length * 8 ≤ 140737488355328) : ∃ u, f_rotate_unique_int l = some u ∧ asc u ∧ ∀ x, x ∈ u ↔ x ∈ l := by
  have hs : (l.mergeSort fun x y => decide (x ≤ y)).Pairwise fun a b => a ≤ b := (List.pairwise_mergeSort (le := fun x y => decide (x ≤ y)) (fun a b c h1 h2 => by simp at *; omega) (fun a b => by simp; omega) l).imp fun k => by simpa using k
  obtain ⟨c1, c2⟩ := compact_sorted _ hs
  refine ⟨Lib.compact (l.mergeSort fun x y => decide (x ≤ y)), ?_, c1, fun x => (c2 x).trans (List.mergeSort_perm l _).mem_iff⟩
  unfold f_rotate_unique_int f_slices_Clone_int_int f_slices_Sort_int_int f_slices_Compact_int_int
  refine bind_of (ck_of (by unfold fits; simp only [decide_eq_true_eq]; omega) rfl) (bind_of (ck_of (by omega) rfl) (bind_of (ck_of ?_ rfl) rfl))
  have : (l.mergeSort fun x y => decide (x ≤ y)).length = l.length := List.length_mergeSort l
  omega
/-- The number of a name. -/
def num? (s : ByteArray) : Option Int := match f_rotate_Number s with
  | some (n, true, _) => some n
  | _ => none
theorem num_of {s : ByteArray} (hs : small s) : ∃ R, f_rotate_Number s = some R ∧ f_kauditref26_Number s = some R ∧ num? s = (if R.2.1 = true then some R.1 else none) ∧ (R.2.1 = true → 1 ≤ R.1 ∧ R.1 ≤ 1000) := by
  obtain ⟨R, r1, r2, r3⟩ := number_same s hs
  refine ⟨R, r1, r2, ?_, fun h => ?_⟩
  · unfold num?
    rw [r1]
    obtain ⟨a, b, c⟩ := R
    cases b <;> rfl
  · rcases r3 with rfl | h3
    · cases h
    · exact h3
theorem rot_loop (l : List ByteArray) (hl : l.length * 8 ≤ 140737488355328) (hs : ∀ s ∈ l, small s) : ∀ (k i : Nat) (out : List Int), l.length - i + 1 ≤ k → i ≤ l.length → out.length ≤ i →
    f_rotate_Numbers_l1 l k out i = f_rotate_Numbers_j1 (out ++ (l.drop i).filterMap num?) := by
  intro k
  induction k with
  | zero => intro i out h; omega
  | succ k ih =>
    intro i out hk hi ho
    rw [f_rotate_Numbers_l1]
    by_cases h : i < l.length
    · obtain ⟨u, hu, mu⟩ := got h
      obtain ⟨R, r1, _, r3, _⟩ := num_of (hs u mu)
      rw [drop_up hu, if_pos (by simp only [decide_eq_true_eq]; omega), at_nat hu, Option.bind_some, r1, Option.bind_some, up (by omega)]
      by_cases e : R.2.1 = true
      · rw [if_pos e] at r3
        rw [if_pos e, ck_true (by unfold fits; simp only [List.length_cons, List.length_nil, decide_eq_true_eq]; omega), ih (i + 1) _ (by omega) (by omega) (by simp; omega), List.filterMap_cons, r3]
        simp
      · rw [if_neg e] at r3
        rw [if_neg e, ih (i + 1) _ (by omega) (by omega) (by omega), List.filterMap_cons, r3]
    · rw [if_neg (by simp only [decide_eq_true_eq]; omega)]
      obtain rfl : i = l.length := by omega
      simp
theorem ref_loop (l : List ByteArray) (hl : l.length * 8 ≤ 140737488355328) (hs : ∀ s ∈ l, small s) : ∀ (k i : Nat) (acc : List Int), l.length - i + 1 ≤ k → i ≤ l.length → asc acc → (∀ x ∈ acc, 1 ≤ x ∧ x ≤ 1000) →
    ∃ r, f_kauditref26_Numbers_l1 l k acc i = some r ∧ asc r ∧ (∀ x ∈ r, 1 ≤ x ∧ x ≤ 1000) ∧ ∀ x, x ∈ r ↔ x ∈ acc ∨ x ∈ (l.drop i).filterMap num? := by
  intro k
  induction k with
  | zero => intro i out h; omega
  | succ k ih =>
    intro i acc hk hi ha hb
    rw [f_kauditref26_Numbers_l1]
    by_cases h : i < l.length
    · obtain ⟨u, hu, mu⟩ := got h
      obtain ⟨R, _, r2, r3, r4⟩ := num_of (hs u mu)
      rw [drop_up hu, if_pos (by simp only [decide_eq_true_eq]; omega), at_nat hu, Option.bind_some, r2, Option.bind_some, up (by omega)]
      by_cases e : R.2.1 = true
      · rw [if_pos e] at r3
        have hlen := asc_len acc 1 1000 ha hb
        rw [if_pos e, add_ok acc R.1 (by omega), Option.bind_some, List.filterMap_cons, r3]
        obtain ⟨r, e1, e2, e3, e4⟩ := ih (i + 1) (insF R.1 acc) (by omega) (by omega) (asc_insF _ _ ha) (fun x hx => by
          rcases (mem_insF R.1 x acc).1 hx with rfl | k2
          · exact r4 e
          · exact hb x k2)
        refine ⟨r, e1, e2, e3, fun x => ?_⟩
        rw [e4, mem_insF, List.mem_cons]
        constructor
        · rintro ((k2 | k2) | k2)
          · exact .inr (.inl k2)
          · exact .inl k2
          · exact .inr (.inr k2)
        · rintro (k2 | k2 | k2)
          · exact .inl (.inr k2)
          · exact .inl (.inl k2)
          · exact .inr k2
      · rw [if_neg e] at r3
        rw [if_neg e, List.filterMap_cons, r3]
        exact ih (i + 1) acc (by omega) (by omega) ha hb
    · rw [if_neg (by simp only [decide_eq_true_eq]; omega)]
      obtain rfl : i = l.length := by omega
      exact ⟨acc, rfl, ha, hb, fun x => by simp⟩
theorem same_self (l : List Int) (hl : l.length ≤ 1000) : f_kauditref26_SameInts l l = some true := by
  unfold f_kauditref26_SameInts
  refine ite_f (by simp) ?_
  have loop : ∀ (k i : Nat), l.length - i + 1 ≤ k → i ≤ l.length → f_kauditref26_SameInts_l1 l l k i = some true := by
    intro k
    induction k with
    | zero => intro i h; omega
    | succ k ih =>
      intro i hk hi
      rw [f_kauditref26_SameInts_l1]
      by_cases h : i < l.length
      · obtain ⟨u, hu, _⟩ := got h
        refine ite_t (by simp only [decide_eq_true_eq]; omega) (bind_of (at_nat hu) (bind_of (at_nat hu) (ite_f (by simp) ?_)))
        rw [up (by omega)]
        exact ih (i + 1) (by omega) (by omega)
      · exact ite_f (by simp only [decide_eq_false_iff_not]; omega) rfl
  exact loop _ 0 (by omega) (by omega)
theorem numbers_j3 (l : List ByteArray) (hl : l.length * 8 ≤ 140737488355328) (hs : ∀ s ∈ l, small s) : f_kauditlaw26_RotateNumbers_j3 l = some true := by
  obtain ⟨r, e1, e2, e3, e4⟩ := ref_loop l hl hs ((((l.length : Int) : Int) - 0).toNat + 1) 0 [] (by omega) (by omega) List.Pairwise.nil (by simp)
  have hf : ((l.drop 0).filterMap num?).length ≤ l.length := by
    rw [List.drop_zero]; exact List.length_filterMap_le _ _
  obtain ⟨u, u1, u2, u3⟩ := unique_any ([] ++ (l.drop 0).filterMap num?) (by simp only [List.nil_append]; omega)
  have eu : u = r := strict_ext u2 e2 fun x => by rw [u3, e4]; simp
  subst eu
  have h1 : f_rotate_Numbers l = some u := by
    unfold f_rotate_Numbers
    refine (rot_loop l hl hs _ 0 [] (by omega) (by omega) (by simp)).trans ?_
    unfold f_rotate_Numbers_j1
    exact bind_of u1 rfl
  have h2 : f_kauditref26_Numbers l = some u := e1
  have hlen := asc_len u 1 1000 u2 e3
  unfold f_kauditlaw26_RotateNumbers_j3
  exact bind_of h1 (bind_of h2 (bind_of (same_self u (by omega)) (ite_t rfl (bind_of begun_ok rfl))))
theorem text_ok (l : List Int) (a : Int) (hl : l.length ≤ 1000) (hb : Bytes l) (h0 : 0 ≤ a) (h1 : a ≤ 1000) : ∃ s a', f_kauditmill_Case_Text ⟨l, a⟩ = some (s, a') ∧ small s ∧ 0 ≤ a' ∧ a' ≤ 1000 := by
  obtain ⟨v, a', e, v0, v1, c0, c1⟩ := int_ok l a 10 hl hb h0 h1 (by omega)
  obtain ⟨j, rfl⟩ := Int.eq_ofNat_of_zero_le v0
  have hj : j < 10 := by omega
  unfold f_kauditmill_Case_Text
  have hel : ∃ s : ByteArray, ([(⟨#[]⟩ : ByteArray), (⟨#[97]⟩ : ByteArray), (⟨#[97, 110, 110]⟩ : ByteArray), (⟨#[47, 97, 47, 98]⟩ : ByteArray), (⟨#[110, 111]⟩ : ByteArray), (⟨#[121, 101, 115]⟩ : ByteArray), (⟨#[97, 32, 98]⟩ : ByteArray), (⟨#[120, 54, 102]⟩ : ByteArray), (⟨#[0]⟩ : ByteArray), (⟨#[109, 107, 100, 105, 114]⟩ : ByteArray)])[j]? = some s ∧ small s := by
    match j, hj with
    | 0, _ | 1, _ | 2, _ | 3, _ | 4, _ | 5, _ | 6, _ | 7, _ | 8, _ | 9, _ => exact ⟨_, rfl, by unfold small; decide⟩
  obtain ⟨s, hs, ss⟩ := hel
  exact ⟨s, a', bind_of e (bind_of (at_nat hs) rfl), ss, c0, c1⟩
theorem numbers_l1 (l : List Int) (hl : l.length ≤ 1000) (hb : Bytes l) : ∀ (k v : Nat) (a : Int) (x : List ByteArray), v + 1 ≤ k → v ≤ 9 → 0 ≤ a → a ≤ 1000 → (x.length + 3 * v) * 16 ≤ 140737488355328 → (∀ s ∈ x, small s) →
    f_kauditlaw26_RotateNumbers_l1 l k a x v = some true := by
  intro k
  induction k with
  | zero => intro v a x h; omega
  | succ k ih =>
    intro v a x hk hv ha0 ha1 hlen hx
    rw [f_kauditlaw26_RotateNumbers_l1]
    by_cases h : v > 0
    · obtain ⟨u, a1, e1, _, _, c0, c1⟩ := int_ok l a 9 hl hb ha0 ha1 (by omega)
      obtain ⟨s, s1, _, s3, _⟩ := name_tot u
      obtain ⟨u', a2, e2, _, _, d0, d1⟩ := int_ok l a1 9 hl hb c0 c1 (by omega)
      obtain ⟨t, t1, _, t3⟩ := packed_tot u'
      obtain ⟨w, a3, e3, w3, f0, f1⟩ := text_ok l a2 hl hb d0 d1
      refine ite_t (by simp only [decide_eq_true_eq]; omega) (bind_of e1 (bind_of s1 (bind_of e2 (bind_of t1 (bind_of e3 (ck_of ?_ ?_))))))
      · unfold fits; simp only [List.length_cons, List.length_nil, decide_eq_true_eq]; omega
      · have wv : IntKind.wrap .i64 ((v : Int) - 1) = ((v - 1 : Nat) : Int) := by rw [wrap_id (by omega) (by omega)]; omega
        rw [wv]
        refine ih (v - 1) a3 _ (by omega) (by omega) f0 f1 (by simp only [List.length_append, List.length_cons, List.length_nil]; omega) (fun q hq => ?_)
        rcases List.mem_append.1 hq with k2 | k2
        · exact hx q k2
        · simp only [List.mem_cons, List.mem_nil_iff, or_false] at k2
          rcases k2 with rfl | rfl | rfl
          · unfold small; omega
          · unfold small; omega
          · exact w3
    · refine ite_f (by simp only [decide_eq_false_iff_not]; omega) ?_
      exact numbers_j3 x (by omega) hx
theorem numbers_j1 (z : List ByteArray) (l : List Int) (hl : l.length ≤ 1000) (hb : Bytes l) (hz : z.length * 16 ≤ 140737488351232) (hs : ∀ s ∈ z, small s) : f_kauditlaw26_RotateNumbers_j1 z l = some true := by
  obtain ⟨v, a, e, v0, v1, c0, c1⟩ := int_ok l 0 9 hl hb (by omega) (by omega) (by omega)
  obtain ⟨v, rfl⟩ := Int.eq_ofNat_of_zero_le v0
  unfold f_kauditlaw26_RotateNumbers_j1 f_kauditlaw26_RotateNumbers_j2
  refine ck_of (by unfold fits; simp only [List.length_nil, decide_eq_true_eq]; omega) (bind_of e ?_)
  exact numbers_l1 l hl hb _ v a ([] ++ z) (by show v + 1 ≤ ((v : Int) - 0).toNat + 1; omega) (by omega) c0 c1 (by simp only [List.nil_append]; omega) (by simpa using hs)
theorem numbers_law (z0 : List Int) (z1 : List ByteArray) (hb : Bytes z0) (hz : z1.length * 16 ≤ 140737488351232) (hs : ∀ s ∈ z1, small s) : f_kauditlaw26_RotateNumbers z0 z1 = some true := by
  unfold f_kauditlaw26_RotateNumbers
  by_cases h : z0.length > 60
  · have c := cut_bytes hb 60
    exact ite_t (by simp only [decide_eq_true_eq]; omega) (ck_of ⟨by omega, by omega, by omega⟩ (numbers_j1 z1 _ (by have := c.2; omega) c.1 hz hs))
  · exact ite_f (by simp only [decide_eq_false_iff_not]; omega) (numbers_j1 z1 _ (by omega) hb hz hs)
end Go.Proofs.YtgcigcbhilcgoaaDoor.Gx
