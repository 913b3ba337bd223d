/- The law CrcSums, of what the walk has printed: over numbers and lists alone. -/
import Derived.Test.YtnggjnhfdjjphaaPTwox11
import Derived.Test.YtnggjnhfdjjphaaCrcLib
namespace Go.Proofs.Ytnggjnhfdjjphaa.Pure
open Go.RowKit Go.Proofs.Ytnggjnhfdjjphaa.PTwo Go.Proofs.YtnggjnhfdjjphaaW.PrintWords Go.Proofs.YtnggjnhfdjjphaaW.PrintLast Go.Proofs.YtnggjnhfdjjphaaW.PrintMore
theorem CrcSums : plaitinglaw2_CrcSums.Pure := by
  intro l0 _ _ _
  refine ⟨3000, ?_⟩
  obtain ⟨k, hk⟩ : ∃ k : Nat, k = 3000 := ⟨_, rfl⟩
  rw [← hk]
  unfold plaitinglaw2_CrcSums.f
  obtain ⟨l, hb, hl, hf⟩ := lawBits l0
  have hw := wrapL_length l
  rw [known2 k (by omega), Option.bind_some, if_pos rfl, hf k (by omega), Option.bind_some, crc_Wrap_eq l hb (by omega) k (by omega), Option.bind_some,
    crc_Open_bits _ (wrapL_bits l hb) (by omega) k (by omega), Option.bind_some, crc_Sum_eq l hb, Option.bind_some, ref_Sum_eq l hb (by omega) k (by omega), Option.bind_some, if_pos rfl,
    ref_Wrap_eq l hb (by omega) k (by omega), Option.bind_some, if_pos rfl, openW_wrap, if_pos rfl]
  simp
end Go.Proofs.Ytnggjnhfdjjphaa.Pure
