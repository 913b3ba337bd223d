/- The law SymTurn, of what the walk has printed: over numbers and lists alone. -/
import Derived.Test.YtnggjnhfdjjphaaPTwox29
import Derived.Test.YtnggjnhfdjjphaaSymLib
namespace Go.Proofs.Ytnggjnhfdjjphaa.Pure
open Go.RowKit Go.Proofs.Ytnggjnhfdjjphaa.PTwo Go.Proofs.YtnggjnhfdjjphaaW.PrintWords Go.Proofs.YtnggjnhfdjjphaaW.PrintLast Go.Proofs.YtnggjnhfdjjphaaW.PrintMore
theorem turnC_turnC (c : UInt8) (h : c.toNat = 48 ∨ c.toNat = 49) : turnC (turnC c) = c := by
  rcases h with h | h
  · have : c = 48 := u8_eq h
    subst this; rfl
  · have : c = 49 := u8_eq h
    subst this; rfl
theorem turnC_other (c : UInt8) (h48 : ¬ c.toNat = 48) (h49 : ¬ c.toNat = 49) (h35 : ¬ c.toNat = 35) : turnC c = c := by
  unfold turnC turnedN
  rw [if_neg h49, if_neg h35, if_neg h48]
  simp
theorem turnL_len (l : List UInt8) (j : Nat) : (turnL l j).length = l.length := by unfold turnL; rw [List.length_set]
theorem turnL_at (l : List UInt8) (j : Nat) (h : j < l.length) : (turnL l j)[j]'(by rw [turnL_len]; exact h) = turnC (l[j]'h) := by
  have hg : l.getD j 0 = l[j]'h := by simp [List.getD_eq_getElem?_getD, List.getElem?_eq_getElem h]
  simp only [turnL, List.getElem_set_self, hg]
theorem turnL_turnL (l : List UInt8) (j : Nat) (h : j < l.length) (hb : (l[j]'h).toNat = 48 ∨ (l[j]'h).toNat = 49) : turnL (turnL l j) j = l := by
  have h' : j < (turnL l j).length := by rw [turnL_len]; exact h
  have hg : (turnL l j).getD j 0 = turnC (l[j]'h) := by
    rw [List.getD_eq_getElem?_getD, List.getElem?_eq_getElem h', turnL_at l j h]; rfl
  have : turnL (turnL l j) j = (turnL l j).set j (turnC ((turnL l j).getD j 0)) := rfl
  rw [this, hg, turnC_turnC _ hb]
  unfold turnL
  rw [List.set_set]
  exact List.set_getElem_self h
theorem SymTurn : plaitinglaw1_SymTurn.Pure := by
  intro l0 a1 _ _ _ _
  refine ⟨3000, ?_⟩
  obtain ⟨k, hk⟩ : ∃ k : Nat, k = 3000 := ⟨_, rfl⟩
  rw [← hk]
  unfold plaitinglaw1_SymTurn.f
  have ht := textL_len l0
  rw [known1 k (by omega), Option.bind_some, if_pos rfl, text_eq l0 k (by omega), Option.bind_some, S_list]
  generalize textL l0 = l at ht
  by_cases h0 : l = []
  · subst h0
    rw [if_pos rfl, sym_Turn_out [] a1 (by simp; omega), Option.bind_some, S_list]
    rfl
  · have hpos : 0 < l.length := List.length_pos_iff.2 h0
    have h1 := Int.emod_nonneg a1 (show (l.length : Int) ≠ 0 by omega)
    have h2 := Int.emod_lt_of_pos a1 (show (0 : Int) < l.length by omega)
    have hz := S_size l
    rw [if_neg h0, hz, within1 _ _ (by omega) (by omega), Option.bind_some]
    obtain ⟨j, hj⟩ := Int.eq_ofNat_of_zero_le h1
    rw [hj]
    have hjl : j < l.length := by omega
    have hzt := S_size (turnL l j)
    have htl := turnL_len l j
    have e1 : wrap64 ((j : Int) + 1) = ((j + 1 : Nat) : Int) := by rw [w64 _ (by omega) (by omega)]; omega
    have htake : (turnL l j).take j = l.take j := by unfold turnL; rw [List.take_set_of_le (Nat.le_refl _)]
    have hdrop : (turnL l j).drop (j + 1) = l.drop (j + 1) := by unfold turnL; rw [List.drop_set_of_lt (by omega)]
    rw [sym_Turn_eq l j hjl, Option.bind_some, if_pos (by omega), if_pos (by omega), if_pos (by omega), if_pos (by omega), Int.toNat_natCast, S_take, S_take, htake, if_pos rfl, e1,
      if_pos (by omega), if_pos (by omega), if_pos (by omega), Int.toNat_natCast, S_extract, S_extract, hdrop, hzt, htl]
    have hbool : ((S ((l.drop (j + 1)).take (l.length - (j + 1)))).toList != (S ((l.drop (j + 1)).take (l.length - (j + 1)))).toList) = false := by simp
    rw [hbool]
    obtain ⟨k, rfl⟩ : ∃ q, k = q + 1 := ⟨k - 1, by omega⟩
    have hb1 := S_bt l j hjl
    have hb2 := S_bt (turnL l j) j (by omega)
    rw [turnL_at l j hjl] at hb2
    simp only [plaitinglaw1_SymTurn.j0]
    rw [if_neg (by decide), if_pos (by omega), if_pos (by omega), hb1, hb2]
    by_cases h48 : (l[j]'hjl).toNat = 48
    · have hc : (turnC (l[j]'hjl)).toNat = 49 := by rw [show l[j]'hjl = 48 from u8_eq h48]; rfl
      rw [if_pos (by omega), if_pos (by omega), if_pos (by omega), sym_Turn_eq _ j (by omega), Option.bind_some, turnL_turnL l j hjl (.inl h48)]
      simp
    · rw [if_neg (by omega)]
      by_cases h49 : (l[j]'hjl).toNat = 49
      · have hc : (turnC (l[j]'hjl)).toNat = 48 := by rw [show l[j]'hjl = 49 from u8_eq h49]; rfl
        rw [if_pos (by omega), if_pos (by omega), if_pos (by omega), sym_Turn_eq _ j (by omega), Option.bind_some, turnL_turnL l j hjl (.inr h49)]
        simp
      · rw [if_neg (by omega)]
        by_cases h35 : (l[j]'hjl).toNat = 35
        · have hc : (turnC (l[j]'hjl)).toNat = 48 := by rw [show l[j]'hjl = 35 from u8_eq h35]; rfl
          rw [if_pos (by omega), if_pos (by omega), hc]
          rfl
        · rw [if_neg (by omega)]
          have hsame : turnL l j = l := by
            unfold turnL
            have hg : l.getD j 0 = l[j]'hjl := by simp [List.getD_eq_getElem?_getD, List.getElem?_eq_getElem hjl]
            rw [hg, turnC_other _ h48 h49 h35]
            exact List.set_getElem_self hjl
          rw [hsame]
          simp
end Go.Proofs.Ytnggjnhfdjjphaa.Pure
