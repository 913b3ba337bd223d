/- Texts as lists of bytes: how the walks' words on texts read there. No program in sight. -/
import Derived.Test.YtnggjnhfdjjphaaPQx0
import Derived.Lib.SmallJoins
namespace Go.Proofs.Ytnggjnhfdjjphaa.Pure
open Go.RowKit Go.Proofs.YtnggjnhfdjjphaaW.PrintWords Go.Proofs.YtnggjnhfdjjphaaW.PrintLast Go.Proofs.YtnggjnhfdjjphaaW.PrintMore

abbrev S (l : List UInt8) : ByteArray := ⟨l.toArray⟩
theorem S_data (l : List UInt8) : (S l).data.toList = l := by simp
theorem S_size (l : List UInt8) : (S l).size = l.length := by simp [ByteArray.size]
theorem S_list (l : List UInt8) : (S l).toList = l := ByteArray.toList_mk l
theorem S_eta (s : ByteArray) : s = S s.data.toList := (Joins.bytes_eta s).symm
theorem ext_data {a b : ByteArray} (h : a.data.toList = b.data.toList) : a = b := by
  rw [S_eta a, S_eta b, h]
theorem S_append (a b : List UInt8) : S a ++ S b = S (a ++ b) := by
  apply ext_data
  rw [Joins.data_append, S_data, S_data, S_data]
theorem S_extract (l : List UInt8) (i j : Nat) : (S l).extract i j = S ((l.drop i).take (j - i)) := by
  apply ext_data
  rw [ByteArray.data_extract, Array.toList_extract, S_data, S_data, List.extract_eq_take_drop]
theorem S_take (l : List UInt8) (j : Nat) : (S l).extract 0 j = S (l.take j) := by rw [S_extract]; rfl
theorem S_bt (l : List UInt8) (i : Nat) (h : i < l.length) : bt (S l) (i : Int) = ((l[i]'h).toNat : Int) := by
  have h' : (i : Int).toNat < (S l).size := by rw [S_size]; simpa using h
  unfold bt
  rw [dif_pos h']
  rfl
theorem S_inj {a b : List UInt8} (h : S a = S b) : a = b := by
  have := congrArg (fun s : ByteArray => s.data.toList) h
  simpa only [S_data] using this
theorem w64 (n : Int) (h0 : -9223372036854775808 ≤ n) (h1 : n < 9223372036854775808) : wrap64 n = n := by
  unfold wrap64
  omega
theorem tmod_emod (a n : Int) (hn : 0 < n) : (if Int.tmod a n < 0 then Int.tmod a n + n else Int.tmod a n) = a % n := by
  have h1 := Int.emod_nonneg a (show n ≠ 0 by omega)
  have h2 := Int.emod_lt_of_pos a hn
  have := @Int.tmod_eq_emod a n
  rw [this]
  by_cases h : 0 ≤ a ∨ n ∣ a
  · rw [if_pos h]
    split <;> omega
  · rw [if_neg h]
    have hd : ¬ a % n = 0 := fun e => h (.inr (Int.dvd_of_emod_eq_zero e))
    have hna : (n.natAbs : Int) = n := by omega
    split <;> omega
theorem tmod_range (a n : Int) (hn : 0 < n) : -n < Int.tmod a n ∧ Int.tmod a n < n := by
  have h1 := Int.emod_nonneg a (show n ≠ 0 by omega)
  have h2 := Int.emod_lt_of_pos a hn
  have := tmod_emod a n hn
  have h3 := @Int.tmod_eq_emod a n
  by_cases h : 0 ≤ a ∨ n ∣ a
  · rw [if_pos h] at h3; omega
  · rw [if_neg h] at h3
    have hd : ¬ a % n = 0 := fun e => h (.inr (Int.dvd_of_emod_eq_zero e))
    have hna : (n.natAbs : Int) = n := by omega
    omega
/-- A printed 'within': the remainder from nought on. -/
theorem within_eq (a n : Int) (hn : 0 < n) (hb : n ≤ 4611686018427387904) :
    (if n = 0 then (none) else (if (Int.tmod a n) < 0 then (some (wrap64 ((Int.tmod a n) + n))) else (some (Int.tmod a n)))) = some (a % n) := by
  have h1 := tmod_range a n hn
  have h2 := tmod_emod a n hn
  rw [if_neg (by omega), w64 _ (by omega) (by omega)]
  split
  · rename_i h; rw [if_pos h] at h2; rw [h2]
  · rename_i h; rw [if_neg h] at h2; rw [h2]
/-- The lowest bit of any number. -/
theorem and_one (x : Int) : Go.bits .and .i64 x 1 = x % 2 := by
  have h : (BitVec.ofInt 64 x &&& BitVec.ofInt 64 1).toNat = (x % 2).toNat := by
    rw [BitVec.toNat_and]
    have e1 : (BitVec.ofInt 64 1).toNat = 2 ^ 1 - 1 := rfl
    rw [e1, Nat.and_two_pow_sub_one_eq_mod, BitVec.toNat_ofInt]
    omega
  unfold Go.bits
  show IntKind.i64.wrap ((BitVec.ofInt 64 x &&& BitVec.ofInt 64 1).toNat : Int) = _
  rw [h, IntKind.wrap_i64]
  omega
end Go.Proofs.Ytnggjnhfdjjphaa.Pure
