/- Number, of any string: the program's and the reference's are one. -/
import Derived.Test.YtgcigcbhilcgoaaDoorRBack
namespace Go.Proofs.YtgcigcbhilcgoaaDoor.Gx
open Go.Gx Go.RowKit
set_option maxRecDepth 100000
def small (s : ByteArray) : Prop := s.size ≤ 9223372036854775807
theorem bext {a b : ByteArray} (e : a.toList = b.toList) : a = b := by
  apply ByteArray.ext
  apply Array.ext'
  simpa [ByteArray.toList_eq] using e
def Zs : ByteArray := ⟨#[46, 122]⟩
def hz (s : ByteArray) : Bool := decide (2 ≤ s.size) && ((s.extract (s.size - 2) s.size).toList == Zs.toList)
theorem cutS (s : ByteArray) (hs : small s) : f_strings_CutSuffix s (⟨#[46, 122]⟩ : ByteArray) = some (if hz s = true then (s.extract 0 (s.size - 2), true) else (s, false)) := by
  unfold small at hs
  have e2 : ((⟨#[46, 122]⟩ : ByteArray).size : Int) = 2 := rfl
  unfold f_strings_CutSuffix f_stringslite_CutSuffix f_stringslite_HasSuffix hz
  rw [e2]
  by_cases h : 2 ≤ s.size
  · have w : IntKind.wrap .i64 ((s.size : Int) - 2) = ((s.size - 2 : Nat) : Int) := by rw [wrap_id (by omega) (by omega)]; omega
    have c1 : subStr s ((s.size - 2 : Nat) : Int) (s.size : Int) = some (s.extract (s.size - 2) s.size) := by unfold subStr; rw [if_pos ⟨by omega, by omega, by omega⟩]; simp
    have c2 : subStr s 0 ((s.size - 2 : Nat) : Int) = some (s.extract 0 (s.size - 2)) := by unfold subStr; rw [if_pos ⟨by omega, by omega, by omega⟩]; simp
    rw [w, c1, c2]
    have d : decide ((s.size : Int) ≥ 2) = true := by rw [decide_eq_true_eq]; omega
    rw [if_pos d]
    simp only [h, decide_true, Bool.true_and, Option.bind_some]
    show (if ((s.extract (s.size - 2) s.size).toList == Zs.toList) = true then _ else _ : Option (ByteArray × Bool)).bind _ = _
    cases (s.extract (s.size - 2) s.size).toList == Zs.toList <;> rfl
  · have d : ¬ decide ((s.size : Int) ≥ 2) = true := by rw [decide_eq_true_eq]; omega
    rw [if_neg d]
    simp only [h, decide_false, Bool.false_and]
    rfl
theorem name_tot (z : Int) : ∃ s, f_rotate_Name z = some s ∧ f_kauditref26_Name z = some s ∧ s.size ≤ 8 ∧ ((s.size ≠ 0 → ∃ n : Nat, 1 ≤ n ∧ n ≤ 1000 ∧ z = n)) := by
  by_cases h1 : z < 1
  · exact ⟨⟨#[]⟩, ite_t (by simpa using h1) rfl, ite_t (by simpa using h1) rfl, by decide, fun h => absurd rfl h⟩
  · by_cases h2 : z > 1000
    · exact ⟨⟨#[]⟩, ite_f (by simpa using h1) (ite_t (by simpa using h2) rfl), ite_f (by simpa using h1) (ite_t (by simpa using h2) rfl), by decide, fun h => absurd rfl h⟩
    · obtain ⟨n, rfl⟩ := Int.eq_ofNat_of_zero_le (show 0 ≤ z by omega)
      obtain ⟨s, t, N⟩ := nm_of (n := n) (by omega) (by omega)
      exact ⟨s, N.name, N.rname, by rw [N.size]; omega, fun _ => ⟨n, by omega, by omega, rfl⟩⟩
theorem packed_tot (z : Int) : ∃ s, f_rotate_Packed z = some s ∧ f_kauditref26_Packed z = some s ∧ s.size ≤ 10 := by
  obtain ⟨s, h1, h2, h3, _⟩ := name_tot z
  by_cases e : (s.toList == (⟨#[]⟩ : ByteArray).toList) = true
  · exact ⟨⟨#[]⟩, by unfold f_rotate_Packed; exact bind_of h1 (ite_t e rfl), by unfold f_kauditref26_Packed; exact bind_of h2 (ite_t e rfl), by decide⟩
  · have e' : (s.toList == (⟨#[]⟩ : ByteArray).toList) = false := by simpa using e
    have sz : (⟨#[46, 122]⟩ : ByteArray).size = 2 := rfl
    refine ⟨s ++ ⟨#[46, 122]⟩, ?_, ?_, by rw [ByteArray.size_append, sz]; omega⟩
    · unfold f_rotate_Packed; exact bind_of h1 (ite_f e' (ck_of (by rw [sz]; unfold maxStr; omega) rfl))
    · unfold f_kauditref26_Packed; exact bind_of h2 (ite_f e' (ck_of (by rw [sz]; unfold maxStr; omega) rfl))
def fine (q : ByteArray) (pk : Bool) (R : Int × Bool × Bool) : Prop := R = (0, false, false) ∨ ∃ n : Nat, 1 ≤ n ∧ n ≤ 1000 ∧ R = ((n : Int), true, pk) ∧ f_rotate_Name n = some q
theorem numP_tot (q : ByteArray) (pk : Bool) (hq : small q) : ∃ R, numP q pk = some R ∧ fine q pk R := by
  unfold small at hq
  have e4 : ((⟨#[108, 111, 103, 45]⟩ : ByteArray).size : Int) = 4 := rfl
  unfold numP numG f_strings_CutPrefix f_stringslite_CutPrefix f_stringslite_HasPrefix
  rw [e4]
  by_cases h : 4 ≤ q.size
  · have c1 : subStr q 0 4 = some (q.extract 0 4) := by unfold subStr; rw [if_pos ⟨by omega, by omega, by omega⟩]; rfl
    have c2 : subStr q 4 (q.size : Int) = some (q.extract 4 q.size) := by unfold subStr; rw [if_pos ⟨by omega, by omega, by omega⟩]; simp
    have d : decide ((q.size : Int) ≥ 4) = true := by rw [decide_eq_true_eq]; omega
    rw [if_pos d, c1, c2]
    simp only [Option.bind_some]
    cases (q.extract 0 4).toList == (⟨#[108, 111, 103, 45]⟩ : ByteArray).toList with
    | false => exact ⟨_, rfl, .inl rfl⟩
    | true =>
      simp only [if_true, Option.bind_some]
      generalize q.extract 4 q.size = r
      by_cases h8 : (r.size : Int) = 4
      · rw [if_neg (by simp [h8])]
        unfold f_strconv_Atoi
        rw [ck_true (by omega)]
        simp only [Option.bind_some]
        cases Lib.atoi r.data.toList with
        | none => exact ⟨_, rfl, .inl rfl⟩
        | some n =>
          simp only [Bool.false_eq_true, if_false]
          by_cases hn : n < 1
          · exact ⟨_, ite_t (by simpa using hn) rfl, .inl rfl⟩
          · obtain ⟨s, s1, s2, s3, s4⟩ := name_tot n
            rw [if_neg (by simpa using hn), s1]
            simp only [Option.bind_some]
            by_cases e : (s.toList == q.toList) = true
            · have e' : s = q := bext (by simpa using e)
              subst e'
              obtain ⟨m, m1, m2, rfl⟩ := s4 (by omega)
              exact ⟨_, ite_t e rfl, .inr ⟨m, m1, m2, rfl, s1⟩⟩
            · exact ⟨_, ite_f (by simpa using e) rfl, .inl rfl⟩
      · rw [if_pos (by simpa using h8)]
        exact ⟨_, rfl, .inl rfl⟩
  · have d : ¬ decide ((q.size : Int) ≥ 4) = true := by rw [decide_eq_true_eq]; omega
    rw [if_neg d]
    exact ⟨_, rfl, .inl rfl⟩
theorem ref_l1 (q : ByteArray) (pk : Bool) (hq : q.size = 8) : ∀ (k i : Nat) (x : Int), 8 - i + 1 ≤ k → i ≤ 8 → ∃ R, f_kauditref26_Number_l1 q pk k x i = some R ∧ fine q pk R := by
  intro k
  induction k with
  | zero => intro i x h; omega
  | succ k ih =>
    intro i x hk hi
    rw [f_kauditref26_Number_l1]
    by_cases h : i < 8
    · have hc : ∃ c, byteAt q (i : Int) = some c := by
        unfold byteAt
        rw [if_pos (by omega), Int.toNat_natCast]
        have : i < q.size := by omega
        rw [getElem?_pos q i this]
        exact ⟨_, rfl⟩
      obtain ⟨c, hc⟩ := hc
      rw [if_pos (by simp only [decide_eq_true_eq]; omega), hc]
      simp only [Option.bind_some]
      by_cases h1 : c < 48
      · exact ⟨_, ite_t (by simpa using h1) rfl, .inl rfl⟩
      · by_cases h2 : c > 57
        · exact ⟨_, ite_f (by simpa using h1) (ite_t (by simpa using h2) rfl), .inl rfl⟩
        · rw [if_neg (by simpa using h1), if_neg (by simpa using h2), up (by omega)]
          exact ih (i + 1) _ (by omega) (by omega)
    · rw [if_neg (by simp only [decide_eq_true_eq]; omega)]
      unfold f_kauditref26_Number_j2
      obtain ⟨s, s1, s2, s3, s4⟩ := name_tot x
      rw [s2]
      simp only [Option.bind_some]
      by_cases e : (s.toList == q.toList) = true
      · have e' : s = q := bext (by simpa using e)
        subst e'
        obtain ⟨m, m1, m2, rfl⟩ := s4 (by omega)
        exact ⟨_, ite_t e rfl, .inr ⟨m, m1, m2, rfl, s1⟩⟩
      · exact ⟨_, ite_f (by simpa using e) rfl, .inl rfl⟩
theorem refP_tot (q : ByteArray) (pk : Bool) : ∃ R, f_kauditref26_Number_j1 q pk = some R ∧ fine q pk R := by
  unfold f_kauditref26_Number_j1
  by_cases h : (q.size : Int) = 8
  · rw [if_neg (by simp [h])]
    exact ref_l1 q pk (by omega) _ 4 0 (by omega) (by omega)
  · exact ⟨_, ite_t (by simpa using h) rfl, .inl rfl⟩
theorem both (q : ByteArray) (pk : Bool) (hq : small q) : ∃ R, numP q pk = some R ∧ f_kauditref26_Number_j1 q pk = some R ∧ fine q pk R := by
  obtain ⟨R, r1, r2⟩ := numP_tot q pk hq
  obtain ⟨R', r1', r2'⟩ := refP_tot q pk
  by_cases h : ∃ n : Nat, 1 ≤ n ∧ n ≤ 1000 ∧ f_rotate_Name n = some q
  · obtain ⟨n, n1, n2, hn⟩ := h
    obtain ⟨s, t, N⟩ := nm_of n1 n2
    obtain rfl : s = q := Option.some.inj (N.name.symm.trans hn)
    exact ⟨_, N.num pk, N.rnum pk, .inr ⟨n, n1, n2, rfl, hn⟩⟩
  · rcases r2 with rfl | ⟨n, n1, n2, _, hn⟩
    · rcases r2' with rfl | ⟨n, n1, n2, _, hn⟩
      · exact ⟨_, r1, r1', .inl rfl⟩
      · exact absurd ⟨n, n1, n2, hn⟩ h
    · exact absurd ⟨n, n1, n2, hn⟩ h
/-- A name has eight bytes. -/
theorem not_name {q : ByteArray} {pk : Bool} {R : Int × Bool × Bool} (h : fine q pk R) (hs : q.size ≠ 8) : R = (0, false, false) := by
  rcases h with h | ⟨n, n1, n2, _, hn⟩
  · exact h
  · obtain ⟨s, t, N⟩ := nm_of n1 n2
    obtain rfl : s = q := Option.some.inj (N.name.symm.trans hn)
    exact absurd N.size hs
theorem number_same (s : ByteArray) (hs : small s) : ∃ R, f_rotate_Number s = some R ∧ f_kauditref26_Number s = some R ∧ (R = (0, false, false) ∨ (1 ≤ R.1 ∧ R.1 ≤ 1000)) := by
  have fin : ∀ {q pk R}, fine q pk R → (R = (0, false, false) ∨ (1 ≤ R.1 ∧ R.1 ≤ 1000)) := by
    rintro q pk R (h | ⟨n, n1, n2, rfl, _⟩)
    · exact .inl h
    · exact .inr ⟨by show (1 : Int) ≤ n; omega, by show (n : Int) ≤ 1000; omega⟩
  have hN : f_rotate_Number s = (some (if hz s = true then (s.extract 0 (s.size - 2), true) else (s, false)) : Option (ByteArray × Bool)).bind fun y5 => numP y5.1 y5.2 := by
    rw [number_eq, cutS s hs]
  have hsz := hs
  unfold small at hsz
  rw [hN, Option.bind_some]
  unfold f_kauditref26_Number
  by_cases h10 : s.size = 10
  · have c1 : subStr s 8 (s.size : Int) = some (s.extract 8 10) := by unfold subStr; rw [if_pos ⟨by omega, by omega, by omega⟩, h10]; rfl
    have c2 : subStr s 0 8 = some (s.extract 0 8) := by unfold subStr; rw [if_pos ⟨by omega, by omega, by omega⟩]; rfl
    rw [if_pos (show ((s.size : Int) == 10) = true by simp [h10]), c1, c2]
    simp only [Option.bind_some]
    have hzs : hz s = ((s.extract 8 10).toList == Zs.toList) := by unfold hz; rw [h10]; rfl
    by_cases e : hz s = true
    · rw [if_pos e, if_pos (show ((s.extract 8 10).toList == (⟨#[46, 122]⟩ : ByteArray).toList) = true by rw [hzs] at e; exact e), h10]
      obtain ⟨R, r1, r2, r3⟩ := both (s.extract 0 8) true (by unfold small; rw [ByteArray.size_extract]; omega)
      exact ⟨R, r1, r2, fin r3⟩
    · rw [if_neg e, if_neg (show ¬ ((s.extract 8 10).toList == (⟨#[46, 122]⟩ : ByteArray).toList) = true by rw [hzs] at e; exact e)]
      obtain ⟨R, r1, r2, r3⟩ := both s false hs
      exact ⟨R, r1, r2, fin r3⟩
  · rw [if_neg (show ¬ ((s.size : Int) == 10) = true by simp; omega)]
    obtain ⟨R, r1, r2, r3⟩ := both s false hs
    by_cases e : hz s = true
    · rw [if_pos e]
      have h2 : 2 ≤ s.size := by
        unfold hz at e
        simp only [Bool.and_eq_true, decide_eq_true_eq] at e
        exact e.1
      obtain ⟨R', r1', _, r3'⟩ := both (s.extract 0 (s.size - 2)) true (by unfold small; rw [ByteArray.size_extract]; omega)
      have hR' := not_name r3' (by rw [ByteArray.size_extract]; omega)
      subst hR'
      refine ⟨_, r1', ?_, .inl rfl⟩
      rw [r2]
      rcases r3 with rfl | ⟨n, n1, n2, rfl, hn⟩
      · rfl
      · obtain ⟨s', t, N⟩ := nm_of n1 n2
        obtain rfl : s' = s := Option.some.inj (N.name.symm.trans hn)
        have := N.number
        rw [hN, Option.bind_some, if_pos e, r1'] at this
        simp at this
    · rw [if_neg e]
      exact ⟨R, r1, r2, fin r3⟩
end Go.Proofs.YtgcigcbhilcgoaaDoor.Gx
