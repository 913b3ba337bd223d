/- The law SymAll, of what the walk has printed: over numbers and lists alone. -/
import Derived.Test.YtnggjnhfdjjphaaPSAx10
import Derived.Test.YtnggjnhfdjjphaaSymLibSA
namespace Go.Proofs.Ytnggjnhfdjjphaa.Pure
open Go.RowKit Go.Proofs.Ytnggjnhfdjjphaa.PSA Go.Proofs.YtnggjnhfdjjphaaW.PrintWords Go.Proofs.YtnggjnhfdjjphaaW.PrintLast Go.Proofs.YtnggjnhfdjjphaaW.PrintMore
theorem same_some {α : Type} [DecidableEq α] {a b : Option α} {c : α} (h1 : a = some c) (h2 : b = some c) : same a b = true := by
  subst h1 h2
  simp [same]
theorem one_yes (l : List UInt8) (hl : l.length ≤ 900) (a : Int) (k : Nat) (hk : 1010 ≤ k) : one_ok k a (S l) = true := by
  have hz := S_size l
  unfold one_ok
  have hturn : ∀ b : Int, same (sym_Turn.f (S l) b) (plaitingref1_Turn.f k (S l) b) = true := by
    intro b
    by_cases h : b < 0 ∨ (l.length : Int) ≤ b
    · exact same_some (sym_Turn_out l b h) (ref_Turn_out l b h k (by omega))
    · obtain ⟨j, rfl⟩ := Int.eq_ofNat_of_zero_le (show 0 ≤ b by omega)
      exact same_some (sym_Turn_eq l j (by omega)) (ref_Turn_eq l j (by omega) (by omega) k (by omega))
  rw [same_some (sym_Clean_eq l (by omega)) (ref_Clean_eq l (by omega) k hk), same_some (sym_Whole_eq l (by omega)) (ref_Whole_eq l (by omega) k hk), hturn a, hz, w64 ((l.length : Int) + 1) (by omega) (by omega), within1 a ((l.length : Int) + 1) (by omega) (by omega)]
  simp only [Bool.and_self, Bool.true_and]
  exact hturn _
theorem two_yes (a b : List UInt8) (ha : a.length ≤ 900) (k : Nat) (hk : 1010 ≤ k) : two_ok k (S a) (S b) = true := by
  unfold two_ok
  rw [same_some (sym_Common_eq a b (by omega) k hk) (ref_Common_eq a b (by omega) k hk), same_some (sym_Front_eq a b) (ref_Front_eq a b)]
  rfl
theorem SymAll : plaitinglaw1_SymAll.Pure := by
  intro l0 l1 a2 a3 _ _ _ _ _ _ _ _
  refine ⟨3000, ?_⟩
  obtain ⟨k, hk⟩ : ∃ k : Nat, k = 3000 := ⟨_, rfl⟩
  rw [← hk]
  unfold plaitinglaw1_SymAll.f
  rw [known1 k (by omega), Option.bind_some, if_pos rfl]
  by_cases hb : 200 < a2.size
  · rw [if_pos hb]
  · have ht := textL_len l0
    have hu := textL_len l1
    obtain ⟨s, rfl⟩ : ∃ s : List UInt8, a2 = S s := ⟨a2.data.toList, by simp⟩
    have hs := S_size s
    rw [if_neg hb, text_eq l0 k (by omega), Option.bind_some, text_eq l1 k (by omega), Option.bind_some]
    generalize textL l0 = t at ht
    generalize textL l1 = u at hu
    have hz1 := S_size t
    have hz2 := S_size u
    have hap : S t ++ S s = S (t ++ s) := by
      apply ByteArray.ext
      simp [ByteArray.data_append]
    have hall : all_ok k a3 (five (S t) (S u) (S s)) = true := by
      have hmem : ∀ x ∈ five (S t) (S u) (S s), ∃ l : List UInt8, x = S l ∧ l.length ≤ 900 := by
        intro x hx
        unfold five at hx
        rw [hap] at hx
        simp only [List.mem_cons, List.not_mem_nil, or_false] at hx
        rcases hx with rfl | rfl | rfl | rfl | rfl
        · exact ⟨t, rfl, by omega⟩
        · exact ⟨u, rfl, by omega⟩
        · exact ⟨s, rfl, by omega⟩
        · exact ⟨t ++ s, rfl, by rw [List.length_append]; omega⟩
        · exact ⟨[], rfl, by simp⟩
      unfold all_ok
      rw [Bool.and_eq_true]
      constructor
      · rw [List.all_eq_true]
        intro x hx
        obtain ⟨l, rfl, hl⟩ := hmem x hx
        exact one_yes l hl a3 k (by omega)
      · rw [List.all_eq_true]
        intro x hx
        rw [List.all_eq_true]
        intro y hy
        obtain ⟨l, rfl, hl⟩ := hmem x hx
        obtain ⟨m, rfl, hm⟩ := hmem y hy
        exact two_yes l m hl k (by omega)
    rw [if_pos ⟨by omega, by omega, hall⟩]
end Go.Proofs.Ytnggjnhfdjjphaa.Pure
