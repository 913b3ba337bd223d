/- The law CrcOne, of what the walk has printed: over numbers and lists alone. -/
import Derived.Test.YtnggjnhfdjjphaaPTwox17
import Derived.Test.YtnggjnhfdjjphaaCrcLib
namespace Go.Proofs.Ytnggjnhfdjjphaa.Pure
open Go.RowKit Go.Proofs.Ytnggjnhfdjjphaa.PTwo Go.Proofs.YtnggjnhfdjjphaaW.PrintWords Go.Proofs.YtnggjnhfdjjphaaW.PrintLast Go.Proofs.YtnggjnhfdjjphaaW.PrintMore
theorem bits_not_whole (w : List UInt8) (h : isBits w) (h0 : 0 < w.length) : wholeL w = false := by
  cases hw : wholeL w with
  | false => rfl
  | true =>
    obtain ⟨v, _, rfl⟩ := whole_bits w hw
    have := h 35 (List.mem_append_right _ (List.mem_singleton.2 rfl))
    exact absurd this (by decide)
theorem more_not_whole (w : List UInt8) (c : UInt8) : wholeL (w ++ [35] ++ [c]) = false := by
  cases hw : wholeL (w ++ [35] ++ [c]) with
  | false => rfl
  | true =>
    obtain ⟨v, hb, e⟩ := whole_bits _ hw
    have h1 : w ++ [35] = v := by
      have := congrArg List.dropLast e
      rwa [List.dropLast_concat, List.dropLast_concat] at this
    have := hb 35 (by rw [← h1]; exact List.mem_append_right _ (List.mem_singleton.2 rfl))
    exact absurd this (by decide)
theorem CrcOne : plaitinglaw2_CrcOne.Pure := by
  intro l0 a1 a2 _ _ _ _ _
  refine ⟨3000, ?_⟩
  obtain ⟨k, hk⟩ : ∃ k : Nat, k = 3000 := ⟨_, rfl⟩
  rw [← hk]
  unfold plaitinglaw2_CrcOne.f
  obtain ⟨l, hb, hl, hf⟩ := lawBits l0
  have hw := wrapL_length l
  have hwb := wrapL_bits l hb
  have hsyn : syn (wrapL l) = 0 := syn_wrap l
  rw [known2 k (by omega), Option.bind_some, if_pos rfl, hf k (by omega), Option.bind_some, ref_Wrap_eq l hb (by omega) k (by omega), Option.bind_some]
  clear hf
  generalize wrapL l = w at *
  have hz : (S (w ++ [35])).size = w.length + 1 := by rw [S_size, List.length_append]; rfl
  have hwl : w.length + 1 ≤ 4611686018427387904 := by omega
  have e1 : wrap64 (((S (w ++ [35])).size : Int) - 1) = (w.length : Int) := by
    rw [hz]; exact (w64_sub (w.length + 1) 1 (by omega) hwl).trans (by rw [Nat.add_sub_cancel])
  obtain ⟨j, hj, hjw⟩ := within2_nat a1 w.length (by omega) (by omega)
  obtain ⟨q, hq, hq4⟩ := within2_nat a2 4 (by decide) (by decide)
  have hq' : plaitinglaw2_within.f a2 4 = some (q : Int) := hq
  have hq5 : (q : Int) < ((([(⟨#[48]⟩ : ByteArray), (⟨#[49]⟩ : ByteArray), (⟨#[35]⟩ : ByteArray), (⟨#[120]⟩ : ByteArray)] : List ByteArray).length : Nat) : Int) := Int.ofNat_lt.2 hq4
  have hopen1 : crc_Open.f k (S (turnL (w ++ [35]) j)) = some (S [], 5) := by
    rw [turnL_tail w j hjw, crc_Open_bits _ (turnL_bits w j hwb) (by rw [turnL_length]; omega) k (by omega), openW_no _ (by rw [turnL_length]; omega)]
    rw [syn_turn w j hwb hjw, hsyn, Nat.zero_xor]
    exact one_error _
  obtain ⟨r2, ho2, _, hr2⟩ := open_both w (by omega) k (by omega)
  rw [hr2 (bits_not_whole w hwb (by omega))] at ho2
  have htake : (S (w ++ [35])).extract 0 ((w.length : Int)).toNat = S w := by rw [Int.toNat_natCast, S_take, List.take_left]
  rw [e1, hj, Option.bind_some, ref_Turn_eq _ j (by rw [List.length_append]; omega) (by rw [List.length_append]; simp; omega) k (by omega), Option.bind_some, hopen1, Option.bind_some, if_pos (Int.natCast_nonneg _), if_pos (by rw [hz]; exact Int.ofNat_le.2 (Nat.le_succ _)), htake, ho2, Option.bind_some,
    Option.bind_some, hq', Option.bind_some, if_pos (Int.natCast_nonneg _), if_pos hq5]
  clear hq hq' hj e1
  have hlast : ∃ c : UInt8, rdOf ByteArray.empty ([(⟨#[48]⟩ : ByteArray), (⟨#[49]⟩ : ByteArray), (⟨#[35]⟩ : ByteArray), (⟨#[120]⟩ : ByteArray)] : List ByteArray) (q : Int) = S [c] := by
    match q, hq4 with
    | 0, _ => exact ⟨48, rfl⟩
    | 1, _ => exact ⟨49, rfl⟩
    | 2, _ => exact ⟨35, rfl⟩
    | 3, _ => exact ⟨120, rfl⟩
  obtain ⟨c, hc⟩ := hlast
  obtain ⟨r3, ho3, _, hr3⟩ := open_both (w ++ [35] ++ [c]) (by rw [List.length_append, List.length_append]; simp; omega) k (by omega)
  rw [hr3 (more_not_whole w c)] at ho3
  have hz1 : (S [c]).size = 1 := rfl
  rw [hc, if_pos (by rw [hz, hz1]; omega), S_append, ho3]
  rfl
end Go.Proofs.Ytnggjnhfdjjphaa.Pure
