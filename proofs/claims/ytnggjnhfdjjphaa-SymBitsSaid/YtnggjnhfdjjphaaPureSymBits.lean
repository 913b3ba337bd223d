/- The law SymBits, of what the walk has printed: over numbers and lists alone. -/
import Derived.Test.YtnggjnhfdjjphaaPTwox24
import Derived.Test.YtnggjnhfdjjphaaSymLib
namespace Go.Proofs.Ytnggjnhfdjjphaa.Pure
open Go.RowKit Go.Proofs.Ytnggjnhfdjjphaa.PTwo Go.Proofs.YtnggjnhfdjjphaaW.PrintWords Go.Proofs.YtnggjnhfdjjphaaW.PrintLast Go.Proofs.YtnggjnhfdjjphaaW.PrintMore
theorem SymBits_tail (n size : Int) (k : Nat) (hk : 100 ≤ k) :
    ((plaitinglaw1_within.f size 62).bind fun t245 => ((sym_Bits.f k n (wrap64 (1 + t245))).bind fun t246 => ((sym_Num.f t246).bind fun bt247 => ((sym_Bits.f k n size).bind fun t249 => ((plaitingref1_Bits.f k n size).bind fun t250 => (if t249.toList = t250.toList then ((plaitingref1_Bits.f k n (wrap64 (1 + t245))).bind fun t251 => (if t246.toList = t251.toList then (if (t246.size : Int) = (wrap64 (1 + t245)) then (if bt247.2 = true then (if 0 ≤ (IntKind.u64.wrap (wrap64 (1 + t245))) then (some (bt247.1 == (Go.bits .and .i64 n (wrap64 ((shl .i64 1 (IntKind.u64.wrap (wrap64 (1 + t245)))) - 1))))) else (none)) else (some false)) else (some false)) else (some false))) else (some false))))))) = some true := by
  have h1 := Int.emod_nonneg size (show (62 : Int) ≠ 0 by decide)
  have h2 := Int.emod_lt_of_pos size (show (0 : Int) < 62 by decide)
  obtain ⟨m, hm⟩ : ∃ m : Nat, wrap64 (1 + size % 62) = (m : Int) ∧ 0 < m ∧ m ≤ 62 := ⟨(1 + size % 62).toNat, by rw [w64 _ (by omega) (by omega)]; omega, by omega, by omega⟩
  have hboth : ∃ l, sym_Bits.f k n size = some (S l) ∧ plaitingref1_Bits.f k n size = some (S l) := by
    by_cases h : size < 1 ∨ 62 < size
    · exact ⟨[], sym_Bits_none n size k (by omega) h, ref_Bits_none n size k (by omega) h⟩
    · obtain ⟨q, rfl⟩ := Int.eq_ofNat_of_zero_le (show 0 ≤ size by omega)
      exact ⟨_, sym_Bits_eq n q k (by omega) (by omega) (by omega), ref_Bits_eq n q k (by omega) (by omega) (by omega)⟩
  obtain ⟨l, hl1, hl2⟩ := hboth
  rw [within1 _ 62 (by decide) (by decide), Option.bind_some, hm.1, sym_Bits_eq n m k hm.2.1 hm.2.2 (by omega), Option.bind_some,
    sym_Num_bits _ (bitL_bits n m) (by rw [bitL_length]; exact hm.2.1) (by rw [bitL_length]; exact hm.2.2), Option.bind_some, hl1, Option.bind_some, hl2, Option.bind_some, if_pos rfl,
    ref_Bits_eq n m k hm.2.1 hm.2.2 (by omega), Option.bind_some, if_pos rfl, if_pos (by rw [S_size, bitL_length]), if_pos rfl, mask_eq m hm.2.2, and_mask n m hm.2.2]
  rw [if_pos (by rw [IntKind.wrap_u64]; omega)]
  rw [val_bitL0]
  simp
theorem SymBits : plaitinglaw1_SymBits.Pure := by
  intro a0 a1 l2 a3 _ _ _ _ _ _
  refine ⟨3000, ?_⟩
  obtain ⟨k, hk⟩ : ∃ k : Nat, k = 3000 := ⟨_, rfl⟩
  rw [← hk]
  unfold plaitinglaw1_SymBits.f
  rw [known1 k (by omega), Option.bind_some, if_pos rfl]
  by_cases hraw : (a3.size : Int) > 100
  · rw [if_pos hraw]
  · rw [if_neg hraw, text_eq l2 k (by omega), Option.bind_some]
    obtain ⟨a, rfl⟩ : ∃ a, a3 = S a := ⟨_, S_eta a3⟩
    obtain ⟨k, rfl⟩ : ∃ q, k = q + 1 + 1 + 1 + 1 := ⟨k - 4, by omega⟩
    have hlen : ((([S (textL l2), S a, (⟨#[]⟩ : ByteArray)] : List ByteArray).length : Nat) : Int) = 3 := rfl
    have r0 : rdOf ByteArray.empty ([S (textL l2), S a, (⟨#[]⟩ : ByteArray)] : List ByteArray) 0 = S (textL l2) := rfl
    have r1 : rdOf ByteArray.empty ([S (textL l2), S a, (⟨#[]⟩ : ByteArray)] : List ByteArray) 1 = S a := rfl
    have r2 : rdOf ByteArray.empty ([S (textL l2), S a, (⟨#[]⟩ : ByteArray)] : List ByteArray) 2 = S [] := rfl
    have w1 : wrap64 ((0 : Int) + 1) = 1 := w64 _ (by decide) (by decide)
    have w2 : wrap64 ((1 : Int) + 1) = 2 := w64 _ (by decide) (by decide)
    have w3 : wrap64 ((2 : Int) + 1) = 3 := w64 _ (by decide) (by decide)
    have hb : ∀ b : Bool, ¬ ((b != b) = true) := by decide
    simp only [plaitinglaw1_SymBits.l0]
    rw [hlen, if_pos (by decide), if_pos (by decide), if_pos (by decide), r0, sym_Num_eq, Option.bind_some, ref_Num_eq _ _ (by omega), Option.bind_some, if_pos rfl, if_neg (hb _),
      w1, if_pos (by decide), if_pos (by decide), if_pos (by decide), r1, sym_Num_eq, Option.bind_some, ref_Num_eq _ _ (by omega), Option.bind_some, if_pos rfl, if_neg (hb _),
      w2, if_pos (by decide), if_pos (by decide), if_pos (by decide), r2, sym_Num_eq, Option.bind_some, ref_Num_eq _ _ (by omega), Option.bind_some, if_pos rfl, if_neg (hb _),
      w3, if_neg (by decide)]
    exact SymBits_tail a0 a1 k (by omega)
end Go.Proofs.Ytnggjnhfdjjphaa.Pure
