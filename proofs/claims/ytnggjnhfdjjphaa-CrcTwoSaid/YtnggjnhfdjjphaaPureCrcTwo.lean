/- The law CrcTwo, of what the walk has printed: over numbers and lists alone. -/
import Derived.Test.YtnggjnhfdjjphaaPTwox18
import Derived.Test.YtnggjnhfdjjphaaCrcLib
namespace Go.Proofs.Ytnggjnhfdjjphaa.Pure
open Go.RowKit Go.Proofs.Ytnggjnhfdjjphaa.PTwo Go.Proofs.YtnggjnhfdjjphaaW.PrintWords Go.Proofs.YtnggjnhfdjjphaaW.PrintLast Go.Proofs.YtnggjnhfdjjphaaW.PrintMore
theorem turn_two (w : List UInt8) (hwb : isBits w) (hsyn : syn w = 0) (h16 : 16 ≤ w.length) (hl : w.length ≤ 300) (i j : Nat) (hi : i < w.length) (hj : j < w.length) (hne : i ≠ j) :
    syn (turnL (turnL w i) j) ≠ 0 := by
  have hlen := turnL_length w i
  rw [syn_turn _ j (turnL_bits w i hwb) (by omega), hlen, syn_turn w i hwb hi, hsyn, Nat.zero_xor]
  rcases Nat.lt_or_gt_of_ne hne with h | h
  · have := two_errors (w.length - 1 - j) (j - i - 1) (by omega)
    rwa [show w.length - 1 - j + (j - i - 1 + 1) = w.length - 1 - i by omega] at this
  · have := two_errors (w.length - 1 - i) (i - j - 1) (by omega)
    rw [show w.length - 1 - i + (i - j - 1 + 1) = w.length - 1 - j by omega, Nat.xor_comm] at this
    exact this
theorem CrcTwo : plaitinglaw2_CrcTwo.Pure := by
  intro l0 a1 a2 _ _ _ _ _
  refine ⟨3000, ?_⟩
  obtain ⟨k, hk⟩ : ∃ k : Nat, k = 3000 := ⟨_, rfl⟩
  rw [← hk]
  unfold plaitinglaw2_CrcTwo.f
  obtain ⟨l, hb, hl, hf⟩ := lawBits l0
  have hw := wrapL_length l
  have hwb := wrapL_bits l hb
  have hsyn : syn (wrapL l) = 0 := syn_wrap l
  rw [known2 k (by omega), Option.bind_some, if_pos rfl, hf k (by omega), Option.bind_some, ref_Wrap_eq l hb (by omega) k (by omega), Option.bind_some]
  clear hf
  generalize wrapL l = w at *
  have hz : (S (w ++ [35])).size = w.length + 1 := by rw [S_size, List.length_append]; rfl
  have hwl : w.length + 1 ≤ 4611686018427387904 := by omega
  have e1 : wrap64 (((S (w ++ [35])).size : Int) - 1) = (w.length : Int) := by
    rw [hz]; exact (w64_sub (w.length + 1) 1 (by omega) hwl).trans (by rw [Nat.add_sub_cancel])
  obtain ⟨i, hi, hiw⟩ := within2_nat a1 w.length (by omega) (by omega)
  obtain ⟨j, hj, hjw⟩ := within2_nat a2 w.length (by omega) (by omega)
  rw [e1, hi, Option.bind_some, hj, Option.bind_some]
  clear hi hj e1
  by_cases hij : i = j
  · rw [if_pos (by rw [hij])]
  · have hlen := turnL_length w i
    have hlen2 := turnL_length (turnL w i) j
    rw [if_neg (by omega), ref_Turn_eq _ i (by rw [List.length_append]; omega) (by rw [List.length_append]; simp; omega) k (by omega), Option.bind_some, turnL_tail w i hiw,
      ref_Turn_eq _ j (by rw [List.length_append]; omega) (by rw [List.length_append]; simp; omega) k (by omega), Option.bind_some, turnL_tail _ j (by omega),
      crc_Open_bits _ (turnL_bits _ j (turnL_bits w i hwb)) (by omega) k (by omega), Option.bind_some, openW_no _ (by omega) (turn_two w hwb hsyn (by omega) (by omega) i j hiw hjw hij), if_pos rfl]
    show some ((S []).toList == []) = some true
    rw [S_list]
    rfl
end Go.Proofs.Ytnggjnhfdjjphaa.Pure
