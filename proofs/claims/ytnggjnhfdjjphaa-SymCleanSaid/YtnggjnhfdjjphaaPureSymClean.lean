/- The law SymClean, of what the walk has printed: over numbers and lists alone. -/
import Derived.Test.YtnggjnhfdjjphaaPTwox21
import Derived.Test.YtnggjnhfdjjphaaSymLib
namespace Go.Proofs.Ytnggjnhfdjjphaa.Pure
open Go.RowKit Go.Proofs.Ytnggjnhfdjjphaa.PTwo Go.Proofs.YtnggjnhfdjjphaaW.PrintWords Go.Proofs.YtnggjnhfdjjphaaW.PrintLast Go.Proofs.YtnggjnhfdjjphaaW.PrintMore
theorem SymClean_tail (k : Nat) (hk : 2000 ≤ k) (l0 : List Int) (a : List UInt8) (ha : a.length ≤ 100) (s : List UInt8) (hs : s.length ≤ 300) (hc : cleanL s = s) :
    ((plaitinglaw1_Text.f k l0).bind fun t228 => (if t228.size + 1 ≤ 9223372036854775807 then ((sym_Clean.f (t228 ++ (⟨#[46]⟩ : ByteArray))).bind fun t229 => ((sym_Clean.f (S s)).bind fun t230 => (if t230.toList = (S s).toList then (if t229.size + 1 ≤ 9223372036854775807 then (if (t229 ++ (⟨#[35]⟩ : ByteArray)).size + (S a).size ≤ 9223372036854775807 then ((sym_Clean.f ((t229 ++ (⟨#[35]⟩ : ByteArray)) ++ (S a))).bind fun t231 => ((plaitingref1_Clean.f k (t229 ++ (⟨#[35]⟩ : ByteArray))).bind fun t232 => (if t231.toList = t232.toList then ((sym_Whole.f (S s)).bind fun t233 => (if (S s).toList = ([] : List UInt8) then (some (t233 == false)) else (if 0 ≤ (wrap64 (((S s).size : Int) - 1)) then (if (wrap64 (((S s).size : Int) - 1)) < ((S s).size : Int) then (some (t233 == ((bt (S s) (wrap64 (((S s).size : Int) - 1))) == 35))) else (none)) else (none)))) else (some false)))) else (none)) else (none)) else (some false)))) else (none))) = some true := by
  have hz := S_size s
  have ht := textL_len l0
  have e46 : (⟨#[46]⟩ : ByteArray) = S [46] := rfl
  have e35 : (⟨#[35]⟩ : ByteArray) = S [35] := rfl
  have hb := cleanL_len (textL l0 ++ [46])
  rw [List.length_append, List.length_singleton] at hb
  rw [text_eq l0 k (by omega), Option.bind_some, if_pos (by rw [S_size]; omega), e46, e35, S_append, sym_Clean_eq _ (by simp; omega), Option.bind_some, sym_Clean_eq s (by omega), Option.bind_some, hc,
    if_pos rfl, S_append, S_append, if_pos (by rw [S_size]; omega), if_pos (by rw [S_size, S_size]; simp; omega), sym_Clean_eq _ (by simp; omega), Option.bind_some, ref_Clean_eq _ (by simp; omega) k (by omega), Option.bind_some,
    cleanL_stop, if_pos rfl, sym_Whole_eq s (by omega), Option.bind_some, S_list]
  by_cases h0 : s = []
  · subst h0
    rfl
  · have hpos : 0 < s.length := List.length_pos_iff.2 h0
    have e1 : wrap64 (((S s).size : Int) - 1) = ((s.length - 1 : Nat) : Int) := by rw [w64 _ (by omega) (by omega)]; omega
    have hbt := S_bt s (s.length - 1) (by omega)
    rw [if_neg h0, e1, if_pos (by omega), if_pos (by omega), hbt]
    have hd : s.drop (s.length - 1) = [s[s.length - 1]'(by omega)] := by
      rw [List.drop_eq_getElem_cons (by omega), List.drop_of_length_le (by omega)]
    unfold wholeL
    rw [hd, hc, beq_self_eq_true, Bool.and_true]
    congr 1
    by_cases e : s[s.length - 1]'(by omega) = 35
    · rw [e]; rfl
    · have hne : ¬ (((s[s.length - 1]'(by omega)).toNat : Int) = 35) := fun h => e (u8_eq (by have h35 : (35 : UInt8).toNat = 35 := rfl; omega))
      rw [beq_eq_false_iff_ne.2 hne]
      have hne2 : ([s[s.length - 1]'(by omega)] == [35]) = false := by
        rw [beq_eq_false_iff_ne]
        intro h
        exact e (List.cons.inj h).1
      rw [hne2]
      rfl
theorem SymClean_loop (l0 : List Int) (a : List UInt8) (ha : a.length ≤ 100) (s : List UInt8) (hs : s.length ≤ 300) (hc : cleanL s = s) : ∀ (d k i : Nat), i + d = s.length → 2000 + d < k →
    plaitinglaw1_SymClean.l0 k l0 (S a) (S s) i = some true := by
  intro d
  induction d with
  | zero =>
    intro k i hi hk
    obtain ⟨k, rfl⟩ : ∃ q, k = q + 1 := ⟨k - 1, by omega⟩
    have hz := S_size s
    simp only [plaitinglaw1_SymClean.l0]
    rw [if_neg (by omega)]
    exact SymClean_tail k (by omega) l0 a ha s hs hc
  | succ d ih =>
    intro k i hi hk
    obtain ⟨k, rfl⟩ : ∃ q, k = q + 1 := ⟨k - 1, by omega⟩
    have hz := S_size s
    have his : i < s.length := by omega
    have hb := S_bt s i his
    have e1 : wrap64 ((i : Int) + 1) = ((i + 1 : Nat) : Int) := by rw [w64 _ (by omega) (by omega)]; omega
    have hgo := ih k (i + 1) (by omega) (by omega)
    have hat := cleanL_at s i (by rw [hc]; exact his)
    simp only [hc] at hat
    simp only [plaitinglaw1_SymClean.l0]
    rw [if_pos (by omega), if_pos (by omega), hb, e1]
    by_cases h48 : (s[i]'his).toNat = 48
    · rw [if_pos (by omega)]; exact hgo
    · rw [if_neg (by omega)]
      by_cases h49 : (s[i]'his).toNat = 49
      · rw [if_pos (by omega)]; exact hgo
      · rw [if_neg (by omega), if_pos (by omega), if_neg (by omega)]; exact hgo
theorem SymClean : plaitinglaw1_SymClean.Pure := by
  intro l0 a1 _ _ _ _
  refine ⟨3000, ?_⟩
  obtain ⟨k, hk⟩ : ∃ k : Nat, k = 3000 := ⟨_, rfl⟩
  rw [← hk]
  unfold plaitinglaw1_SymClean.f
  rw [known1 k (by omega), Option.bind_some, if_pos rfl]
  by_cases hraw : (a1.size : Int) > 100
  · rw [if_pos hraw]
  · rw [if_neg hraw]
    obtain ⟨a, rfl⟩ : ∃ a, a1 = S a := ⟨_, S_eta a1⟩
    have hz := S_size a
    have ht := textL_len l0
    have hl := cleanL_len (textL l0 ++ a)
    rw [List.length_append] at hl
    rw [text_eq l0 k (by omega), Option.bind_some, if_pos (by rw [S_size]; omega), S_append, sym_Clean_eq _ (by rw [List.length_append]; omega), Option.bind_some]
    exact SymClean_loop l0 a (by omega) _ (by omega) (cleanL_idem _) (cleanL (textL l0 ++ a)).length k 0 (by omega) (by omega)
end Go.Proofs.Ytnggjnhfdjjphaa.Pure
