/- The law SymNums, of what the walk has printed: over numbers and lists alone. -/
import Derived.Test.YtnggjnhfdjjphaaPTwox25
import Derived.Test.YtnggjnhfdjjphaaSymLib
namespace Go.Proofs.Ytnggjnhfdjjphaa.Pure
open Go.RowKit Go.Proofs.Ytnggjnhfdjjphaa.PTwo Go.Proofs.YtnggjnhfdjjphaaW.PrintWords Go.Proofs.YtnggjnhfdjjphaaW.PrintLast Go.Proofs.YtnggjnhfdjjphaaW.PrintMore
theorem bitC_lt (a b : Int) (ha : a = 0 ∨ a = 1) (hb : b = 0 ∨ b = 1) : (bitC a < bitC b ↔ a < b) ∧ ((bitC a == bitC b) = decide (a = b)) := by
  rcases ha with rfl | rfl <;> rcases hb with rfl | rfl <;> decide
theorem less_bitL (x y : Int) : ∀ m : Nat, Op.bytesLess (bitL x m) (bitL y m) = decide (x % 2 ^ m < y % 2 ^ m)
  | 0 => by simp [bitL, Op.bytesLess, Int.emod_one]
  | m + 1 => by
    have ih := less_bitL x y m
    have hp := two_pow_pos m
    have ex : x % 2 ^ (m + 1) = x % 2 ^ m + 2 ^ m * (x / 2 ^ m % 2) := by rw [Int.pow_succ]; exact emod_double x _ hp
    have ey : y % 2 ^ (m + 1) = y % 2 ^ m + 2 ^ m * (y / 2 ^ m % 2) := by rw [Int.pow_succ]; exact emod_double y _ hp
    have x0 := Int.emod_nonneg x (show (2 : Int) ^ m ≠ 0 by omega)
    have x1 := Int.emod_lt_of_pos x hp
    have y0 := Int.emod_nonneg y (show (2 : Int) ^ m ≠ 0 by omega)
    have y1 := Int.emod_lt_of_pos y hp
    have hx : x / 2 ^ m % 2 = 0 ∨ x / 2 ^ m % 2 = 1 := by omega
    have hy : y / 2 ^ m % 2 = 0 ∨ y / 2 ^ m % 2 = 1 := by omega
    have hbit := bitC_lt _ _ hx hy
    rw [bitL, bitL, Op.bytesLess, ih, ex, ey, hbit.2]
    have hd : decide (bitC (x / 2 ^ m % 2) < bitC (y / 2 ^ m % 2)) = decide (x / 2 ^ m % 2 < y / 2 ^ m % 2) := by simp only [hbit.1]
    rw [hd]
    rcases hx with hx | hx <;> rcases hy with hy | hy <;> rw [hx, hy] <;> simp <;> omega
theorem eq_bitL (x y : Int) : ∀ m : Nat, (bitL x m == bitL y m) = decide (x % 2 ^ m = y % 2 ^ m)
  | 0 => by simp [bitL, Int.emod_one]
  | m + 1 => by
    have ih := eq_bitL x y m
    have hp := two_pow_pos m
    have ex : x % 2 ^ (m + 1) = x % 2 ^ m + 2 ^ m * (x / 2 ^ m % 2) := by rw [Int.pow_succ]; exact emod_double x _ hp
    have ey : y % 2 ^ (m + 1) = y % 2 ^ m + 2 ^ m * (y / 2 ^ m % 2) := by rw [Int.pow_succ]; exact emod_double y _ hp
    have x0 := Int.emod_nonneg x (show (2 : Int) ^ m ≠ 0 by omega)
    have x1 := Int.emod_lt_of_pos x hp
    have y0 := Int.emod_nonneg y (show (2 : Int) ^ m ≠ 0 by omega)
    have y1 := Int.emod_lt_of_pos y hp
    have hx : x / 2 ^ m % 2 = 0 ∨ x / 2 ^ m % 2 = 1 := by omega
    have hy : y / 2 ^ m % 2 = 0 ∨ y / 2 ^ m % 2 = 1 := by omega
    have hbit := bitC_lt _ _ hx hy
    rw [bitL, bitL, List.cons_beq_cons, ih, ex, ey, hbit.2]
    rcases hx with hx | hx <;> rcases hy with hy | hy <;> rw [hx, hy] <;> simp <;> omega
theorem SymNums : plaitinglaw1_SymNums.Pure := by
  intro a0 a1 a2 _ _ _
  refine ⟨3000, ?_⟩
  obtain ⟨k, hk⟩ : ∃ k : Nat, k = 3000 := ⟨_, rfl⟩
  rw [← hk]
  unfold plaitinglaw1_SymNums.f
  have h1 := Int.emod_nonneg a2 (show (61 : Int) ≠ 0 by decide)
  have h2 := Int.emod_lt_of_pos a2 (show (0 : Int) < 61 by decide)
  obtain ⟨m, hm⟩ : ∃ m : Nat, wrap64 (1 + a2 % 61) = (m : Int) ∧ 0 < m ∧ m ≤ 61 := ⟨(1 + a2 % 61).toNat, by rw [w64 _ (by omega) (by omega)]; omega, by omega, by omega⟩
  have hp := two_pow_pos m
  have hx0 := Int.emod_nonneg a0 (show (2 : Int) ^ m ≠ 0 by omega)
  have hx1 := Int.emod_lt_of_pos a0 hp
  have hy0 := Int.emod_nonneg a1 (show (2 : Int) ^ m ≠ 0 by omega)
  have hy1 := Int.emod_lt_of_pos a1 hp
  have bl : ∀ x, (bitL x m).length = m := fun x => bitL_length x m
  have e48 : (⟨#[48]⟩ : ByteArray) = S [48] := rfl
  have hb48 : isBits ([48] ++ bitL (a0 % 2 ^ m) m) := by
    intro c hc
    rcases List.mem_cons.1 hc with rfl | hc
    · exact .inl rfl
    · exact bitL_bits _ _ c hc
  have v48 : (val ([48] ++ bitL (a0 % 2 ^ m) m) 0 : Int) = a0 % 2 ^ m := by
    show (val (bitL (a0 % 2 ^ m) m) 0 : Int) = _
    rw [val_bitL0, Int.emod_eq_of_lt hx0 hx1]
  rw [known1 k (by omega), Option.bind_some, if_pos rfl, within1 _ 61 (by decide) (by decide), Option.bind_some, hm.1, if_pos (by rw [IntKind.wrap_u64]; omega),
    mask_eq m (by omega), and_mask a0 m (by omega), and_mask a1 m (by omega), sym_Bits_eq _ m k hm.2.1 (by omega) (by omega), Option.bind_some, sym_Bits_eq _ m k hm.2.1 (by omega) (by omega), Option.bind_some,
    if_pos (by rw [S_size, bl]; omega), e48, S_append, sym_Num_bits _ hb48 (by simp) (by rw [List.length_append, bl]; simp; omega), Option.bind_some,
    sym_Num_bits _ (bitL_bits _ m) (by rw [bl]; exact hm.2.1) (by rw [bl]; omega), Option.bind_some, if_pos rfl, if_pos rfl, if_pos v48, val_bitL0, if_pos (Int.emod_eq_of_lt hy0 hy1), S_list, S_list,
    less_bitL, eq_bitL, Int.emod_eq_of_lt hx0 hx1, Int.emod_eq_of_lt hy0 hy1, if_pos (by simp)]
  congr 1
  by_cases e : a0 % 2 ^ m = a1 % 2 ^ m
  · rw [e]; simp
  · have : (a0 % 2 ^ m == a1 % 2 ^ m) = false := beq_eq_false_iff_ne.2 e
    rw [this, decide_eq_false e]
    rfl
end Go.Proofs.Ytnggjnhfdjjphaa.Pure
