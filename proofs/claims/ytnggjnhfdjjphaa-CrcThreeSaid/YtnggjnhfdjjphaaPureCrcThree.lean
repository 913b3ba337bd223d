/- The law CrcThree, of what the walk has printed: over numbers and lists alone. -/
import Derived.Test.YtnggjnhfdjjphaaPTwox6
import Derived.Test.YtnggjnhfdjjphaaCrcLib
namespace Go.Proofs.Ytnggjnhfdjjphaa.Pure
open Go.RowKit Go.Proofs.Ytnggjnhfdjjphaa.PTwo Go.Proofs.YtnggjnhfdjjphaaW.PrintWords Go.Proofs.YtnggjnhfdjjphaaW.PrintLast Go.Proofs.YtnggjnhfdjjphaaW.PrintMore
theorem CrcThree : plaitinglaw2_CrcThree.Pure := by
  intro n a b c _ _ _ _
  refine ⟨3000, ?_⟩
  obtain ⟨k, hk⟩ : ∃ k : Nat, k = 3000 := ⟨_, rfl⟩
  rw [← hk]
  unfold plaitinglaw2_CrcThree.f
  obtain ⟨i, hi, hi60⟩ := within2_nat n 60 (by decide) (by decide)
  have hi' : plaitinglaw2_within.f n 60 = some (i : Int) := hi
  have hm : wrap64 (1 + (i : Int)) = ((1 + i : Nat) : Int) := by rw [w64 _ (by omega) (by omega)]; omega
  have hb : ∀ x : Int, plaitingref1_Bits.f k x ((1 + i : Nat) : Int) = some (S (bitL x (1 + i))) := fun x => ref_Bits_eq x (1 + i) k (by omega) (by omega) (by omega)
  have hs : ∀ x : Int, crc_Sum.f (S (bitL x (1 + i))) = some ((sumF (bitL x (1 + i)) 65535 : Nat) : Int) := fun x => crc_Sum_eq _ (bitL_bits _ _)
  have hlt : ∀ x : Int, sumF (bitL x (1 + i)) 65535 < 65536 := fun x => sumF_lt _ _ (by decide)
  have h3 := sumF_three a b c (Go.bits .xor .i64 (Go.bits .xor .i64 a b) c) (1 + i) 65535 65535 65535 (by decide) (by decide) (by decide) (fun j hj => by
    rw [bits_xor_bit _ _ j (by omega), bits_xor_bit _ _ j (by omega)])
  rw [Nat.xor_self, Nat.zero_xor] at h3
  have hx := xor_lt16 (hlt a) (hlt b)
  rw [known2 k (by omega), Option.bind_some, if_pos rfl, hi', Option.bind_some, hm, hb, Option.bind_some, hb, Option.bind_some, hb, Option.bind_some, hb, Option.bind_some, hs, Option.bind_some, hs, Option.bind_some, hs, Option.bind_some, hs, Option.bind_some,
    bits_xor_i64 _ _ (Nat.lt_trans (hlt a) (by decide)) (Nat.lt_trans (hlt b) (by decide)), bits_xor_i64 _ _ (Nat.lt_trans hx (by decide)) (Nat.lt_trans (hlt c) (by decide)), h3]
  simp
end Go.Proofs.Ytnggjnhfdjjphaa.Pure
