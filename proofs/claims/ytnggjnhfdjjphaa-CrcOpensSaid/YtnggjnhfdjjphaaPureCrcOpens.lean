/- The law CrcOpens, of what the walk has printed: over numbers and lists alone. -/
import Derived.Test.YtnggjnhfdjjphaaPTwox16
import Derived.Test.YtnggjnhfdjjphaaCrcLib
namespace Go.Proofs.Ytnggjnhfdjjphaa.Pure
open Go.RowKit Go.Proofs.Ytnggjnhfdjjphaa.PTwo Go.Proofs.YtnggjnhfdjjphaaW.PrintWords Go.Proofs.YtnggjnhfdjjphaaW.PrintLast Go.Proofs.YtnggjnhfdjjphaaW.PrintMore
theorem opens_loop (ls : List (List UInt8)) (hls : ∀ l ∈ ls, l.length ≤ 800) (h100 : ls.length ≤ 100) : ∀ (d k i : Nat), i + d = ls.length → 2000 + d < k →
    plaitinglaw2_CrcOpens.l0 k (ls.map S) i = some true := by
  intro d
  induction d with
  | zero =>
    intro k i hi hk
    obtain ⟨k, rfl⟩ : ∃ q, k = q + 1 := ⟨k - 1, by omega⟩
    simp only [plaitinglaw2_CrcOpens.l0]
    rw [if_neg (by rw [List.length_map]; omega)]
  | succ d ih =>
    intro k i hi hk
    obtain ⟨k, rfl⟩ : ∃ q, k = q + 1 := ⟨k - 1, by omega⟩
    have hil : i < ls.length := by omega
    have hi4 : i ≤ 4611686018427387904 := by omega
    have hrd : rdOf ByteArray.empty (ls.map S) (i : Int) = S (ls[i]'hil) := by
      unfold rdOf
      rw [Int.toNat_natCast, List.getD_eq_getElem?_getD, List.getElem?_map, List.getElem?_eq_getElem hil]
      rfl
    obtain ⟨r, h1, h2, _⟩ := open_both (ls[i]'hil) (by have := hls _ (List.getElem_mem hil); omega) k (by omega)
    have hgo := ih k (i + 1) (by omega) (by omega)
    simp only [plaitinglaw2_CrcOpens.l0]
    rw [if_pos (by rw [List.length_map]; exact Int.ofNat_lt.2 hil), if_pos (Int.natCast_nonneg i), hrd, h1, Option.bind_some, h2, Option.bind_some, if_pos rfl, if_pos rfl, w64_succ i hi4]
    exact hgo
theorem CrcOpens : plaitinglaw2_CrcOpens.Pure := by
  intro l0 a1 a2 a3 l4 a5 _ _ _ _ _ _ _ _ _ _
  refine ⟨3000, ?_⟩
  obtain ⟨k, hk⟩ : ∃ k : Nat, k = 3000 := ⟨_, rfl⟩
  rw [← hk]
  unfold plaitinglaw2_CrcOpens.f
  rw [known2 k (by omega), Option.bind_some, if_pos rfl]
  by_cases hraw : (a5.size : Int) > 200
  · rw [if_pos hraw]
  · rw [if_neg hraw]
    obtain ⟨raw, rfl⟩ : ∃ a, a5 = S a := ⟨_, S_eta a5⟩
    rw [S_size] at hraw
    obtain ⟨l, hb, hl, hf⟩ := lawBits l0
    have hw := wrapL_length l
    have ht := textL_len l4
    have htx := text_eq l4 k (by omega)
    rw [hf k (by omega), Option.bind_some, ref_Wrap_eq l hb (by omega) k (by omega), Option.bind_some]
    clear hf
    have hlen : (wrapL l ++ [35]).length = l.length + 17 := by rw [List.length_append, hw]; rfl
    generalize wrapL l ++ [35] = s at *
    generalize textL l4 = t at *
    have hz := S_size s
    have hzt := S_size t
    obtain ⟨c, hc, hcs⟩ := within2_nat a3 (s.length + 1) (by omega) (by omega)
    obtain ⟨i, hi, his⟩ := within2_nat a1 s.length (by omega) (by omega)
    obtain ⟨j, hj, hjs⟩ := within2_nat a2 s.length (by omega) (by omega)
    have hs4 : s.length ≤ 4611686018427387904 := by omega
    have hzi : ((S s).size : Int) = (s.length : Int) := by rw [hz]
    have hi4 := hi
    rw [← hzi] at hi hj
    have hlt := turnL_length s i
    have hlt2 := turnL_length (turnL s i) j
    have hcl : c ≤ s.length := by omega
    have hz2 : (S (s.take c)).size = c := by rw [S_size, List.length_take]; omega
    have hz3 : (S (s.take c ++ t)).size = c + t.length := by rw [S_size, List.length_append, List.length_take]; omega
    have hz4 : (S (s.drop c)).size = s.length - c := by rw [S_size, List.length_drop]
    have hdrop : (s.drop c).take (s.length - c) = s.drop c := List.take_of_length_le (by rw [List.length_drop]; omega)
    have ht1 := ref_Turn_eq s i his (by omega) k (by omega)
    have ht2 := ref_Turn_eq (turnL s i) j (by omega) (by omega) k (by omega)
    have e1 : wrap64 (((S s).size : Int) + 1) = ((s.length + 1 : Nat) : Int) := by rw [hz]; exact w64_succ _ hs4
    rw [e1]
    clear e1
    simp only [hc, hi, hj, ht1, ht2, Option.bind_some]
    rw [if_pos (Int.natCast_nonneg c), if_pos (by rw [hzi]; exact Int.ofNat_le.2 hcl)]
    simp only [Int.toNat_natCast, S_extract, hz, hdrop, Nat.sub_zero, List.drop_zero]
    clear hc hi hj ht1 ht2 hi4 hzi
    have h35 : (⟨#[35]⟩ : ByteArray) = S [35] := rfl
    have hs1 : (S (s.take c)).size + (S t).size ≤ 9223372036854775807 := by omega
    have hs2 : (S (s.take c ++ t)).size + (S (s.drop c)).size ≤ 9223372036854775807 := by omega
    have hs3 : s.length + (S t).size ≤ 9223372036854775807 := by omega
    have hs4 : (S t).size + 1 ≤ 9223372036854775807 := by omega
    simp only [htx, Option.bind_some, S_append, h35]
    rw [if_pos hs1, if_pos hs2, if_pos hs3, if_pos hs4]
    exact opens_loop [turnL s i, turnL (turnL s i) j, s.take c, s.take c ++ t ++ s.drop c, s ++ t, t, raw, t ++ [35]] (by
      intro x hx
      simp only [List.mem_cons, List.not_mem_nil, or_false] at hx
      rcases hx with rfl | rfl | rfl | rfl | rfl | rfl | rfl | rfl
      · omega
      · omega
      · rw [List.length_take]; omega
      · rw [List.length_append, List.length_append, List.length_take, List.length_drop]; omega
      · rw [List.length_append]; omega
      · omega
      · omega
      · rw [List.length_append]; simp; omega) (by simp) 8 k 0 rfl (by omega)
end Go.Proofs.Ytnggjnhfdjjphaa.Pure
