/- The law CrcOdd, of what the walk has printed: over numbers and lists alone. -/
import Derived.Test.YtnggjnhfdjjphaaPTwox20
import Derived.Test.YtnggjnhfdjjphaaCrcLib
namespace Go.Proofs.Ytnggjnhfdjjphaa.Pure
open Go.RowKit Go.Proofs.Ytnggjnhfdjjphaa.PTwo Go.Proofs.YtnggjnhfdjjphaaW.PrintWords Go.Proofs.YtnggjnhfdjjphaaW.PrintLast Go.Proofs.YtnggjnhfdjjphaaW.PrintMore
theorem CrcOdd : plaitinglaw2_CrcOdd.Pure := by
  intro l0 a1 a2 a3 _ _ _ _ _ _
  refine ⟨3000, ?_⟩
  obtain ⟨k, hk⟩ : ∃ k : Nat, k = 3000 := ⟨_, rfl⟩
  rw [← hk]
  unfold plaitinglaw2_CrcOdd.f
  obtain ⟨l, hb, hl, hf⟩ := lawBits l0
  have hw := wrapL_length l
  have hwb := wrapL_bits l hb
  have hsyn : syn (wrapL l) = 0 := syn_wrap l
  rw [known2 k (by omega), Option.bind_some, if_pos rfl, hf k (by omega), Option.bind_some, ref_Wrap_eq l hb (by omega) k (by omega), Option.bind_some]
  clear hf
  generalize wrapL l = w at *
  have hz : (S (w ++ [35])).size = w.length + 1 := by rw [S_size, List.length_append]; rfl
  have hwl : w.length + 1 ≤ 4611686018427387904 := by omega
  have e1 : wrap64 (((S (w ++ [35])).size : Int) - 1) = (w.length : Int) := by
    rw [hz]; exact (w64_sub (w.length + 1) 1 (by omega) hwl).trans (by rw [Nat.add_sub_cancel])
  obtain ⟨i, hi, hiw⟩ := within2_nat a1 w.length (by omega) (by omega)
  obtain ⟨j, hj, hjw⟩ := within2_nat a2 w.length (by omega) (by omega)
  obtain ⟨q, hq, hqw⟩ := within2_nat a3 w.length (by omega) (by omega)
  rw [e1, hi, Option.bind_some, hj, Option.bind_some, hq, Option.bind_some]
  clear hi hj hq e1
  have hlen := turnL_length w i
  have hlen2 := turnL_length (turnL w i) j
  have hlen3 := turnL_length (turnL (turnL w i) j) q
  have b1 := turnL_bits w i hwb
  have b2 := turnL_bits _ j b1
  have b3 := turnL_bits _ q b2
  have hs : syn (turnL (turnL (turnL w i) j) q) ≠ 0 := by
    rw [syn_turn _ q b2 (by omega), syn_turn _ j b1 (by omega), syn_turn w i hwb hiw, hsyn, Nat.zero_xor]
    exact odd_errors _ _ _
  rw [ref_Turn_eq _ i (by rw [List.length_append]; omega) (by rw [List.length_append]; simp; omega) k (by omega), Option.bind_some, turnL_tail w i hiw,
    ref_Turn_eq _ j (by rw [List.length_append]; omega) (by rw [List.length_append]; simp; omega) k (by omega), Option.bind_some, turnL_tail _ j (by omega),
    ref_Turn_eq _ q (by rw [List.length_append]; omega) (by rw [List.length_append]; simp; omega) k (by omega), Option.bind_some, turnL_tail _ q (by omega),
    crc_Open_bits _ b3 (by omega) k (by omega), Option.bind_some, openW_no _ (by omega) hs, if_pos rfl]
  show some ((S []).toList == []) = some true
  rw [S_list]
  rfl
end Go.Proofs.Ytnggjnhfdjjphaa.Pure
