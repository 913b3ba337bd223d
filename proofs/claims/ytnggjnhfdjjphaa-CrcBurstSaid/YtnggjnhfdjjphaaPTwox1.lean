-- Written by the session's own program (wip/gen).
import Derived.Test.YtnggjnhfdjjphaaPTwox0
namespace Go.Proofs.Ytnggjnhfdjjphaa.PTwo
open Go.RowKit Go.Proofs.YtnggjnhfdjjphaaW.PrintWords Go.Proofs.YtnggjnhfdjjphaaW.PrintLast Go.Proofs.YtnggjnhfdjjphaaW.PrintMore
attribute [local go_sem] max2_int min2_int max_two min_two max_three min_three max_four min_four   -- for this text's walks alone
set_option linter.unusedVariables false
set_option linter.unusedSimpArgs false

theorem run_index_string_at {P : Program} (t : TypeId) (s : ByteArray) (i : Int) (h : P.underlying t = some .string) (h0 : 0 ≤ i) (h1 : i < (s.size : Int)) (W : World) :
    (Instr.index t (.string s) (.int .i64 i)).run P W = .ok (.int .u8 (bt s i)) W := by
  rw [run_index_string W t s .i64 i h]
  have hn : i.toNat < s.size := by omega
  simp [h0, h1, bt, hn]

-- (by hand: runes.aux)
theorem drop_at (s : ByteArray) (pos : Nat) (h : pos < s.size) : s.data.toList.drop pos = s[pos]'h :: s.data.toList.drop (pos + 1) := by
  have h' : pos < s.data.toList.length := by simpa using h
  rw [List.drop_eq_getElem_cons h']; rfl
theorem extract_all (s : ByteArray) (n : Nat) (h : s.size ≤ n) : s.extract 0 n = s := by
  apply ByteArray.ext
  rw [ByteArray.data_extract]
  apply Array.ext'
  rw [Array.toList_extract]
  simp
  exact List.take_of_length_le (by simpa using h)
/-- A sign of a text, as the range has it: of an ASCII byte the byte; else it is no ASCII sign. -/
theorem rune_at (s : ByteArray) (pos : Nat) (h : pos < s.size) :
    ∃ r n, Utf8.decode s pos = (r, n) ∧ 1 ≤ n ∧ (((s[pos]'h).toNat < 128 ∧ r = (s[pos]'h).toNat ∧ n = 1) ∨ (128 ≤ (s[pos]'h).toNat ∧ 128 ≤ r)) := by
  by_cases ha : (s[pos]'h).toNat < 128
  · exact ⟨_, _, decode_ascii s pos h ha, Nat.le_refl _, .inl ⟨ha, rfl, rfl⟩⟩
  · have := decode_high s pos h (by omega)
    exact ⟨_, _, rfl, this.2, .inr ⟨by omega, this.1⟩⟩

-- (by hand: bits64.aux)
theorem bits_or_i64 (a b : Nat) (ha : a < 9223372036854775808) (hb : b < 9223372036854775808) : bits .or .i64 (a : Int) (b : Int) = ((a ||| b : Nat) : Int) :=
  (bits_nat .i64 63 (by decide) (fun n h0 h1 => by rw [IntKind.wrap_i64]; omega) a b (by omega) (by omega)).2
theorem or_double (a b : Nat) (ha : a < 4611686018427387904) (hb : b ≤ 1) : bits .or .i64 ((a : Int) * 2) (b : Int) = ((2 * a + b : Nat) : Int) := by
  have e : (a : Int) * 2 = ((2 * a : Nat) : Int) := by omega
  rw [e, bits_or_i64 _ _ (by omega) (by omega)]
  have := Nat.two_pow_add_eq_or_of_lt (i := 1) (b := b) (by omega) a
  rw [Nat.pow_one] at this
  rw [this]
theorem bits_and_i64 (a b : Nat) (ha : a < 9223372036854775808) (hb : b < 9223372036854775808) : bits .and .i64 (a : Int) (b : Int) = ((a &&& b : Nat) : Int) :=
  (bits_nat .i64 63 (by decide) (fun n h0 h1 => by rw [IntKind.wrap_i64]; omega) a b (by omega) (by omega)).1
theorem bits_xor_i64 (a b : Nat) (ha : a < 9223372036854775808) (hb : b < 9223372036854775808) : bits .xor .i64 (a : Int) (b : Int) = ((a ^^^ b : Nat) : Int) := by
  have h : a ^^^ b < 2 ^ 63 := Nat.xor_lt_two_pow (by omega) (by omega)
  have ha' : a % 2 ^ IntKind.i64.bits = a := Nat.mod_eq_of_lt (by simp [IntKind.bits]; omega)
  have hb' : b % 2 ^ IntKind.i64.bits = b := Nat.mod_eq_of_lt (by simp [IntKind.bits]; omega)
  simp only [bits, BitVec.ofInt_natCast, BitVec.toNat_xor, BitVec.toNat_ofNat, ha', hb']
  rw [IntKind.wrap_i64]
  omega

/-! ### crc_Sum: function 35 (by hand) -/
/-- A sum, one bit later. -/
def sumStep (n b : Nat) : Nat := if n / 32768 = b then 2 * n % 65536 else (2 * n % 65536) ^^^ 4129
def sumGo : Nat → List UInt8 → Option Nat
  | n, [] => some n
  | n, c :: l => if c.toNat = 48 ∨ c.toNat = 49 then sumGo (sumStep n (c.toNat - 48)) l else none
theorem sumStep_lt (n b : Nat) : sumStep n b < 65536 := by
  unfold sumStep
  split
  · omega
  · exact Nat.xor_lt_two_pow (n := 16) (by omega) (by omega)
def crc_Sum.f (a0 : ByteArray) : Option Int := (sumGo 65535 a0.data.toList).map fun (n : Nat) => (n : Int)
set_option maxRecDepth 100000 in
theorem sum_walk (a0 : ByteArray) (w : World) (r : Nat) (hr : Aside0 (sumGo 65535 a0.data.toList = some r)) :
    Calls Try.prog 35 #[.string a0] w fun e w' => e = .returned (.int .i64 r) ∧ Below w.heap.size w w' := by
  go_enter Try.func35, Try.ntmps35
  go_wp2
  go_loopw [3] (fun i w' => ∃ (pos : Nat) (v : Nat), w' = w.iter a0 pos ∧ i = .int .i64 v ∧ v < 65536 ∧ Aside0 (sumGo v (a0.data.toList.drop pos) = some r)) (fun _ w' => a0.size - w'.iterPos w.heap.size)
  case atStart => exact ⟨0, 65535, rfl, rfl, by omega, by simpa using hr⟩
  case round =>
    obtain ⟨pos, v, rfl, rfl, hv, HC⟩ := hrel
    by_cases hp : pos < a0.size
    · obtain ⟨rv, n, hd, hn, hcase⟩ := rune_at a0 pos hp
      have hnx : ∀ ty, (Instr.next (.pointer (some ⟨w.heap.size, 0, none⟩)) true ty).run Try.prog (w.iter a0 pos) = .ok (.tuple #[.bool true, .int .i64 pos, .int .i32 rv]) (w.iter a0 (pos + n)) := fun ty => by
        have := run_next_any (P := Try.prog) w a0 pos ty hp
        rw [hd] at this
        exact this
      have hdr := drop_at a0 pos hp
      rw [hdr] at HC
      clear hd hdr
      by_cases h01 : (a0[pos]'hp).toNat = 48 ∨ (a0[pos]'hp).toNat = 49
      · obtain rfl : n = 1 := by omega
        obtain ⟨b, rfl, hb1⟩ : ∃ b, rv = 48 + b ∧ b ≤ 1 := ⟨rv - 48, by omega, by omega⟩
        have HC' : Aside0 (sumGo (sumStep v b) (a0.data.toList.drop (pos + 1)) = some r) := ⟨by
          have := HC.out
          rw [sumGo, if_pos h01] at this
          rw [← this]; congr 2; omega⟩
        have HS := Aside0.mk (sumStep_lt v b)
        clear HC hcase h01
        have e1 : bits .and .i64 ((v : Int) * 2) 65535 = ((2 * v % 65536 : Nat) : Int) := by
          have := bits_and_i64 (2 * v) 65535 (by omega) (by omega)
          rw [show (v : Int) * 2 = ((2 * v : Nat) : Int) by omega]
          refine this.trans ?_
          rw [show 65535 = 2 ^ 16 - 1 from rfl, Nat.and_two_pow_sub_one_eq_mod]
        have e2 : bits .and .i64 (48 + (b : Int) - 48) 1 = (b : Int) := by
          rw [show (48 : Int) + (b : Int) - 48 = (b : Int) by omega]
          refine (bits_and_i64 b 1 (by omega) (by omega)).trans ?_
          have : b = 0 ∨ b = 1 := by omega
          rcases this with rfl | rfl <;> rfl
        have e3 : bits .xor .i64 (((2 * v % 65536 : Nat) : Int)) 4129 = (((2 * v % 65536) ^^^ 4129 : Nat) : Int) := bits_xor_i64 _ 4129 (by omega) (by omega)
        go_wp2
        · have hne : ((v : Int) / 32768 != (b : Int)) = true := by assumption
          have hs : sumStep v b = (2 * v % 65536) ^^^ 4129 := by
            rw [bne_iff_ne] at hne
            exact if_neg (by omega)
          go_roundw
          case rel => exact ⟨pos + 1, sumStep v b, rfl, by rw [hs, show (2 : Int) * (v : Int) % 65536 = ((2 * v % 65536 : Nat) : Int) by omega, e3], HS.out, HC'⟩
          case measure => simp; omega
        · have hne : ((v : Int) / 32768 != (b : Int)) = false := by assumption
          have hs : sumStep v b = 2 * v % 65536 := by
            rw [bne_eq_false_iff_eq] at hne
            exact if_pos (by omega)
          go_roundw
          case rel => exact ⟨pos + 1, sumStep v b, rfl, by rw [hs, show (2 : Int) * (v : Int) % 65536 = ((2 * v % 65536 : Nat) : Int) by omega], HS.out, HC'⟩
          case measure => simp; omega
      · exfalso
        have := HC.out
        rw [sumGo, if_neg h01] at this
        exact absurd this (by simp)
    · have hnx : ∀ ty, (Instr.next (.pointer (some ⟨w.heap.size, 0, none⟩)) true ty).run Try.prog (w.iter a0 pos) = _ := fun ty => run_next_end w a0 pos ty hp
      have hvr : v = r := by
        have := HC.out
        rw [List.drop_of_length_le (by simp; omega)] at this
        exact Option.some.inj this
      clear HC
      subst hvr
      go_wp2
      go_ret
      exact ⟨rfl, (Below.refl _ _).alloc (Nat.le_refl _) _⟩
theorem crc_Sum.calls (a0 : ByteArray) (r : Int) (w : World) (h : crc_Sum.f a0 = some r) :
    Calls Try.prog 35 #[.string a0] w fun e w' => e = .returned (.int .i64 r) ∧ Below w.heap.size w w' := by
  obtain ⟨n, hn, rfl⟩ := Option.map_eq_some_iff.1 h
  exact sum_walk a0 w n ⟨hn⟩

end Go.Proofs.Ytnggjnhfdjjphaa.PTwo
