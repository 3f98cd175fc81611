/- Names of files and their numbers: all numbers by the kernel. -/
import Derived.Test.YtgcigcbhilcgoaaDoorY6
import Derived.Test.YtgcigcbhilcgoaaDoorY22
import Derived.Test.YtgcigcbhilcgoaaDoorY24
namespace Go.Proofs.YtgcigcbhilcgoaaDoor.Gx
open Go.Gx Go.RowKit
theorem wrap_id {n : Int} (h1 : -9223372036854775808 ≤ n) (h2 : n < 9223372036854775808) : IntKind.wrap .i64 n = n := by
  rw [IntKind.wrap_i64]; omega
theorem ck_true {α : Type} {c : Prop} [Decidable c] {x : Option α} (h : c) : ck c x = x := by simp [ck, h]
theorem bind_of {α β : Type} {x : Option α} {f : α → Option β} {y : α} {z : Option β} (h : x = some y) (h' : f y = z) : x.bind f = z := by rw [h]; exact h'
theorem ck_of {α : Type} {c : Prop} [Decidable c] {x z : Option α} (h : c) (h' : x = z) : ck c x = z := by rw [ck_true h]; exact h'
theorem at_nat {α : Type} {xs : List α} {n : Nat} {u : α} (h : xs[n]? = some u) : at_ xs (n : Int) = some u := by simp [at_, h]
theorem ite_t {α : Type} {b : Bool} {x y z : α} (h : b = true) (h' : x = z) : (if b = true then x else y) = z := by rw [if_pos h]; exact h'
theorem ite_f {α : Type} {b : Bool} {x y z : α} (h : b = false) (h' : y = z) : (if b = true then x else y) = z := by rw [if_neg (by rw [h]; simp)]; exact h'
theorem up {i : Nat} (h : i < 1000000000000000000) : IntKind.wrap .i64 ((i : Int) + 1) = ((i + 1 : Nat) : Int) := by rw [wrap_id (by omega) (by omega)]; omega
theorem got {α : Type} {l : List α} {i : Nat} (h : i < l.length) : ∃ u, l[i]? = some u ∧ u ∈ l := ⟨l[i], List.getElem?_eq_getElem h, List.getElem_mem h⟩
/-- The tail of Number: the name without the suffix; over a function that names. -/
def numG (nm : Int → Option ByteArray) (q : ByteArray) (pk : Bool) : Option (Int × Bool × Bool) := (f_strings_CutPrefix q (⟨#[108, 111, 103, 45]⟩ : ByteArray)).bind fun y9 => if y9.2 = true then (if ((y9.1.size : Int) != 4) = true then (some (0, false, false)) else ((f_strconv_Atoi y9.1).bind fun y23 => if y23.2 = true then (some (0, false, false)) else (if (decide (y23.1 < 1)) = true then (some (0, false, false)) else ((nm y23.1).bind fun y31 => if (y31.toList == q.toList) = true then (some (y23.1, true, pk)) else (some (0, false, false)))))) else (some (0, false, false))
def numP (q : ByteArray) (pk : Bool) : Option (Int × Bool × Bool) := numG f_rotate_Name q pk
theorem number_eq (s : ByteArray) : f_rotate_Number s = (f_strings_CutSuffix s (⟨#[46, 122]⟩ : ByteArray)).bind fun y5 => numP y5.1 y5.2 := rfl
/-- The digits of small numbers. -/
def itoaF (n : Int) : List UInt8 :=
  let u := n.toNat
  if u < 10 then [UInt8.ofNat (48 + u)] else if u < 100 then [UInt8.ofNat (48 + u / 10), UInt8.ofNat (48 + u % 10)]
  else if u < 1000 then [UInt8.ofNat (48 + u / 10 / 10), UInt8.ofNat (48 + u / 10 % 10), UInt8.ofNat (48 + u % 10)]
  else [UInt8.ofNat (48 + u / 10 / 10 / 10), UInt8.ofNat (48 + u / 10 / 10 % 10), UInt8.ofNat (48 + u / 10 % 10), UInt8.ofNat (48 + u % 10)]
theorem itoa_fast {n : Int} (h0 : 0 ≤ n) (h1 : n < 10000) : Lib.itoa n = itoaF n := by
  obtain ⟨u, rfl⟩ := Int.eq_ofNat_of_zero_le h0
  unfold Lib.itoa itoaF
  rw [if_neg (by omega), Int.toNat_natCast]
  have hu : u < 10000 := by omega
  simp only []
  by_cases a : u < 10
  · rw [Lib.decDigits, dif_pos a, if_pos a]
  · rw [if_neg a, Lib.decDigits, dif_neg a]
    by_cases b : u < 100
    · rw [if_pos b, Lib.decDigits, dif_pos (by omega)]; rfl
    · rw [if_neg b, Lib.decDigits, dif_neg (by omega)]
      by_cases c : u < 1000
      · rw [if_pos c, Lib.decDigits, dif_pos (by omega)]; rfl
      · rw [if_neg c, Lib.decDigits, dif_neg (by omega), Lib.decDigits, dif_pos (by omega)]; rfl
def nameF (z0 : Int) : Option (ByteArray) := if (decide (z0 < 1)) = true then (some (⟨#[]⟩ : ByteArray)) else (if (decide (z0 > 1000)) = true then (some (⟨#[]⟩ : ByteArray)) else ((some (⟨(itoaF z0).toArray⟩ : ByteArray)).bind fun y15 => (f_strings_Repeat (⟨#[48]⟩ : ByteArray) (IntKind.wrap .i64 (4 - (y15.size : Int)))).bind fun y19 => ck ((⟨#[108, 111, 103, 45]⟩ : ByteArray).size + y19.size ≤ maxStr) <| ck (((⟨#[108, 111, 103, 45]⟩ : ByteArray) ++ y19).size + y15.size ≤ maxStr) <| some (((⟨#[108, 111, 103, 45]⟩ : ByteArray) ++ y19) ++ y15)))
theorem name_fast : f_rotate_Name = nameF := by
  funext z
  unfold f_rotate_Name nameF
  simp only [decide_eq_true_eq]
  by_cases a : z < 1
  · rw [if_pos a, if_pos a]
  · rw [if_neg a, if_neg a]
    by_cases b : z > 1000
    · rw [if_pos b, if_pos b]
    · rw [if_neg b, if_neg b]
      unfold f_strconv_Itoa
      rw [ck_true ⟨by omega, by omega⟩, itoa_fast (by omega) (by omega)]
def packedG (nm : Int → Option ByteArray) (z0 : Int) : Option (ByteArray) := (nm z0).bind fun y5 => if (y5.toList == (⟨#[]⟩ : ByteArray).toList) = true then (some (⟨#[]⟩ : ByteArray)) else (ck (y5.size + (⟨#[46, 122]⟩ : ByteArray).size ≤ maxStr) <| some (y5 ++ (⟨#[46, 122]⟩ : ByteArray)))
def numberG (nm : Int → Option ByteArray) (s : ByteArray) : Option (Int × Bool × Bool) := (f_strings_CutSuffix s (⟨#[46, 122]⟩ : ByteArray)).bind fun y5 => numG nm y5.1 y5.2
/-- One number's names. -/
def checkG (nm : Int → Option ByteArray) (n : Nat) : Bool :=
  match nm n, packedG nm n with
  | some s, some t => decide (s.size = 8) && decide (s.toList.getLast? ≠ some 122) && decide (t = s ++ ⟨#[46, 122]⟩) && decide (f_kauditref26_Name n = some s) && decide (f_kauditref26_Packed n = some t) && decide (numG nm s true = some ((n : Int), true, true)) && decide (numG nm s false = some ((n : Int), true, false)) && decide (f_kauditref26_Number_j1 s true = some ((n : Int), true, true)) && decide (f_kauditref26_Number_j1 s false = some ((n : Int), true, false)) && decide (numberG nm s = some ((n : Int), true, false)) && decide (numberG nm t = some ((n : Int), true, true))
  | _, _ => false
def check (n : Nat) : Bool := checkG f_rotate_Name n
set_option maxRecDepth 1000000
theorem check_0 : ((List.range 40).all fun i => checkG nameF (i + 1)) = true := by kernel_rfl
theorem check_1 : ((List.range 40).all fun i => checkG nameF (i + 41)) = true := by kernel_rfl
theorem check_2 : ((List.range 40).all fun i => checkG nameF (i + 81)) = true := by kernel_rfl
theorem check_3 : ((List.range 40).all fun i => checkG nameF (i + 121)) = true := by kernel_rfl
theorem check_4 : ((List.range 40).all fun i => checkG nameF (i + 161)) = true := by kernel_rfl
theorem check_5 : ((List.range 40).all fun i => checkG nameF (i + 201)) = true := by kernel_rfl
theorem check_6 : ((List.range 40).all fun i => checkG nameF (i + 241)) = true := by kernel_rfl
theorem check_7 : ((List.range 40).all fun i => checkG nameF (i + 281)) = true := by kernel_rfl
theorem check_8 : ((List.range 40).all fun i => checkG nameF (i + 321)) = true := by kernel_rfl
theorem check_9 : ((List.range 40).all fun i => checkG nameF (i + 361)) = true := by kernel_rfl
theorem check_10 : ((List.range 40).all fun i => checkG nameF (i + 401)) = true := by kernel_rfl
theorem check_11 : ((List.range 40).all fun i => checkG nameF (i + 441)) = true := by kernel_rfl
theorem check_12 : ((List.range 40).all fun i => checkG nameF (i + 481)) = true := by kernel_rfl
theorem check_13 : ((List.range 40).all fun i => checkG nameF (i + 521)) = true := by kernel_rfl
theorem check_14 : ((List.range 40).all fun i => checkG nameF (i + 561)) = true := by kernel_rfl
theorem check_15 : ((List.range 40).all fun i => checkG nameF (i + 601)) = true := by kernel_rfl
theorem check_16 : ((List.range 40).all fun i => checkG nameF (i + 641)) = true := by kernel_rfl
theorem check_17 : ((List.range 40).all fun i => checkG nameF (i + 681)) = true := by kernel_rfl
theorem check_18 : ((List.range 40).all fun i => checkG nameF (i + 721)) = true := by kernel_rfl
theorem check_19 : ((List.range 40).all fun i => checkG nameF (i + 761)) = true := by kernel_rfl
theorem check_20 : ((List.range 40).all fun i => checkG nameF (i + 801)) = true := by kernel_rfl
theorem check_21 : ((List.range 40).all fun i => checkG nameF (i + 841)) = true := by kernel_rfl
theorem check_22 : ((List.range 40).all fun i => checkG nameF (i + 881)) = true := by kernel_rfl
theorem check_23 : ((List.range 40).all fun i => checkG nameF (i + 921)) = true := by kernel_rfl
theorem check_24 : ((List.range 40).all fun i => checkG nameF (i + 961)) = true := by kernel_rfl
theorem check_of {n : Nat} (h1 : 1 ≤ n) (h2 : n ≤ 1000) : check n = true := by
  unfold check
  rw [name_fast]
  have key : ∀ b, ((List.range 40).all fun i => checkG nameF (i + b)) = true → b ≤ n → n < b + 40 → checkG nameF n = true := by
    intro b hb h3 h4
    have := List.all_eq_true.1 hb (n - b) (by rw [List.mem_range]; omega)
    rwa [show n - b + b = n by omega] at this
  have hk : (n - 1) / 40 < 25 := by omega
  match hq : (n - 1) / 40, hk with
  | 0, _ => exact key _ check_0 (by omega) (by omega)
  | 1, _ => exact key _ check_1 (by omega) (by omega)
  | 2, _ => exact key _ check_2 (by omega) (by omega)
  | 3, _ => exact key _ check_3 (by omega) (by omega)
  | 4, _ => exact key _ check_4 (by omega) (by omega)
  | 5, _ => exact key _ check_5 (by omega) (by omega)
  | 6, _ => exact key _ check_6 (by omega) (by omega)
  | 7, _ => exact key _ check_7 (by omega) (by omega)
  | 8, _ => exact key _ check_8 (by omega) (by omega)
  | 9, _ => exact key _ check_9 (by omega) (by omega)
  | 10, _ => exact key _ check_10 (by omega) (by omega)
  | 11, _ => exact key _ check_11 (by omega) (by omega)
  | 12, _ => exact key _ check_12 (by omega) (by omega)
  | 13, _ => exact key _ check_13 (by omega) (by omega)
  | 14, _ => exact key _ check_14 (by omega) (by omega)
  | 15, _ => exact key _ check_15 (by omega) (by omega)
  | 16, _ => exact key _ check_16 (by omega) (by omega)
  | 17, _ => exact key _ check_17 (by omega) (by omega)
  | 18, _ => exact key _ check_18 (by omega) (by omega)
  | 19, _ => exact key _ check_19 (by omega) (by omega)
  | 20, _ => exact key _ check_20 (by omega) (by omega)
  | 21, _ => exact key _ check_21 (by omega) (by omega)
  | 22, _ => exact key _ check_22 (by omega) (by omega)
  | 23, _ => exact key _ check_23 (by omega) (by omega)
  | 24, _ => exact key _ check_24 (by omega) (by omega)
  | q + 25, h => omega
end Go.Proofs.YtgcigcbhilcgoaaDoor.Gx
