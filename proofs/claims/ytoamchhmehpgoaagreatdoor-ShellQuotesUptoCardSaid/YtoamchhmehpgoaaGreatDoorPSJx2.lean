-- Written by the session's own program (wip/gen).
import Derived.Test.YtoamchhmehpgoaaGreatDoorPSJx0
import Derived.Test.YtoamchhmehpgoaaGreatDoorPSJx1
namespace Go.Proofs.YtoamchhmehpgoaaGreatDoor.PSJ
open Go.RowKit Go.Proofs.YtoamchhmehpgoaaGreatDoorW.PrintWords Go.Proofs.YtoamchhmehpgoaaGreatDoorW.PrintLast Go.Proofs.YtoamchhmehpgoaaGreatDoorW.PrintMore
attribute [local go_sem] max2_int min2_int max_two min_two max_three min_three max_four min_four   -- for this text's walks alone
set_option linter.unusedVariables false
set_option linter.unusedSimpArgs false

-- (by hand: runes.aux)
theorem drop_at (s : ByteArray) (pos : Nat) (h : pos < s.size) : s.data.toList.drop pos = s[pos]'h :: s.data.toList.drop (pos + 1) := by
  have h' : pos < s.data.toList.length := by simpa using h
  rw [List.drop_eq_getElem_cons h']; rfl
theorem extract_all (s : ByteArray) (n : Nat) (h : s.size ≤ n) : s.extract 0 n = s := by
  apply ByteArray.ext
  rw [ByteArray.data_extract]
  apply Array.ext'
  rw [Array.toList_extract]
  simp
  exact List.take_of_length_le (by simpa using h)
/-- A sign of a text, as the range has it: of an ASCII byte the byte; else it is no ASCII sign. -/
theorem rune_at (s : ByteArray) (pos : Nat) (h : pos < s.size) :
    ∃ r n, Utf8.decode s pos = (r, n) ∧ 1 ≤ n ∧ (((s[pos]'h).toNat < 128 ∧ r = (s[pos]'h).toNat ∧ n = 1) ∨ (128 ≤ (s[pos]'h).toNat ∧ 128 ≤ r)) := by
  by_cases ha : (s[pos]'h).toNat < 128
  · exact ⟨_, _, decode_ascii s pos h ha, Nat.le_refl _, .inl ⟨ha, rfl, rfl⟩⟩
  · have := decode_high s pos h (by omega)
    exact ⟨_, _, rfl, this.2, .inr ⟨by omega, this.1⟩⟩

-- (by hand: bits64.aux)
theorem bits_or_i64 (a b : Nat) (ha : a < 9223372036854775808) (hb : b < 9223372036854775808) : bits .or .i64 (a : Int) (b : Int) = ((a ||| b : Nat) : Int) :=
  (bits_nat .i64 63 (by decide) (fun n h0 h1 => by rw [IntKind.wrap_i64]; omega) a b (by omega) (by omega)).2
theorem or_double (a b : Nat) (ha : a < 4611686018427387904) (hb : b ≤ 1) : bits .or .i64 ((a : Int) * 2) (b : Int) = ((2 * a + b : Nat) : Int) := by
  have e : (a : Int) * 2 = ((2 * a : Nat) : Int) := by omega
  rw [e, bits_or_i64 _ _ (by omega) (by omega)]
  have := Nat.two_pow_add_eq_or_of_lt (i := 1) (b := b) (by omega) a
  rw [Nat.pow_one] at this
  rw [this]
theorem bits_and_i64 (a b : Nat) (ha : a < 9223372036854775808) (hb : b < 9223372036854775808) : bits .and .i64 (a : Int) (b : Int) = ((a &&& b : Nat) : Int) :=
  (bits_nat .i64 63 (by decide) (fun n h0 h1 => by rw [IntKind.wrap_i64]; omega) a b (by omega) (by omega)).1
theorem bits_xor_i64 (a b : Nat) (ha : a < 9223372036854775808) (hb : b < 9223372036854775808) : bits .xor .i64 (a : Int) (b : Int) = ((a ^^^ b : Nat) : Int) := by
  have h : a ^^^ b < 2 ^ 63 := Nat.xor_lt_two_pow (by omega) (by omega)
  have ha' : a % 2 ^ IntKind.i64.bits = a := Nat.mod_eq_of_lt (by simp [IntKind.bits]; omega)
  have hb' : b % 2 ^ IntKind.i64.bits = b := Nat.mod_eq_of_lt (by simp [IntKind.bits]; omega)
  simp only [bits, BitVec.ofInt_natCast, BitVec.toNat_xor, BitVec.toNat_ofNat, ha', hb']
  rw [IntKind.wrap_i64]
  omega
end Go.Proofs.YtoamchhmehpgoaaGreatDoor.PSJ
