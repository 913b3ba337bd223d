/- The law SymJoin, of what the walk has printed: over numbers and lists alone. -/
import Derived.Test.YtnggjnhfdjjphaaPTwox30
import Derived.Test.YtnggjnhfdjjphaaSymLib
namespace Go.Proofs.Ytnggjnhfdjjphaa.Pure
open Go.RowKit Go.Proofs.Ytnggjnhfdjjphaa.PTwo Go.Proofs.YtnggjnhfdjjphaaW.PrintWords Go.Proofs.YtnggjnhfdjjphaaW.PrintLast Go.Proofs.YtnggjnhfdjjphaaW.PrintMore
theorem w64_succ (n : Nat) (h : n ≤ 4611686018427387904) : wrap64 ((n : Int) + 1) = ((n + 1 : Nat) : Int) := by
  rw [w64 _ (by omega) (by omega)]
  omega
theorem pick_nat (a : Int) (N : Nat) (h : 0 < N) : ∃ i : Nat, a % (N : Int) = i ∧ i < N := by
  have p1 := Int.emod_nonneg a (show (N : Int) ≠ 0 by omega)
  have p2 := Int.emod_lt_of_pos a (show (0 : Int) < (N : Int) by omega)
  exact ⟨(a % (N : Int)).toNat, by rw [Int.toNat_of_nonneg p1], by rw [← Int.ofNat_lt, Int.toNat_of_nonneg p1]; exact p2⟩
theorem within1_nat (a : Int) (N : Nat) (h : 0 < N) (hb : N ≤ 4611686018427387904) : ∃ i : Nat, plaitinglaw1_within.f a (N : Int) = some (i : Int) ∧ i < N := by
  obtain ⟨i, hi, hN⟩ := pick_nat a N h
  refine ⟨i, ?_, hN⟩
  rw [← hi]
  exact within1 a N (Int.natCast_pos.2 h) (Int.ofNat_le.2 hb)
theorem frontL_take (a : List UInt8) (n : Nat) : frontL (a.take n) a = true := by
  unfold frontL
  rw [beq_iff_eq, List.length_take]
  by_cases h : n ≤ a.length
  · rw [Nat.min_eq_left h]
  · rw [Nat.min_eq_right (by omega), List.take_of_length_le (Nat.le_refl _), List.take_of_length_le (by omega)]
theorem commonL_take : ∀ (a : List UInt8) (n : Nat), commonL (a.take n) a = a.take n
  | [], n => by simp [commonL]
  | _ :: _, 0 => by simp [commonL]
  | x :: l, n + 1 => by
    rw [List.take_succ_cons]
    simp only [commonL, if_true]
    rw [commonL_take l n]
theorem wholeL_cons (c : UInt8) (l : List UInt8) (h : 0 < l.length) (hc : cleanL (c :: l) = c :: l) (hl : cleanL l = l) : wholeL (c :: l) = wholeL l := by
  unfold wholeL
  rw [hc, hl, beq_self_eq_true, beq_self_eq_true]
  congr 2
  rw [List.length_cons, show l.length + 1 - 1 = l.length - 1 + 1 by omega, List.drop_succ_cons]
theorem cleanL_join : ∀ a b : List UInt8, cleanL a = a → cleanL (a ++ b) = if wholeL a = true then a else a ++ cleanL b
  | [], b, _ => by
    rw [if_neg (by decide)]
    rfl
  | c :: l, b, h => by
    have hc := cleanL_cons c l
    rw [h] at hc
    show cleanL (c :: (l ++ b)) = _
    rw [cleanL_cons]
    by_cases h1 : c.toNat = 35
    · rw [if_pos h1] at hc
      have hl : l = [] := (List.cons.inj hc).2
      subst hl
      have : c = 35 := u8_eq h1
      subst this
      rw [if_pos h1, if_pos (by decide)]
    · rw [if_neg h1] at hc
      by_cases h2 : c.toNat = 48 ∨ c.toNat = 49
      · rw [if_pos h2] at hc
        have hl : cleanL l = l := (List.cons.inj hc).2.symm
        rw [if_neg h1, if_pos h2, cleanL_join l b hl]
        by_cases h0 : 0 < l.length
        · rw [wholeL_cons c l h0 h hl]
          split <;> rfl
        · have : l = [] := List.eq_nil_of_length_eq_zero (by omega)
          subst this
          have w1 : ¬ wholeL [c] = true := by
            unfold wholeL
            intro e
            rw [Bool.and_eq_true] at e
            have := List.cons.inj (beq_iff_eq.1 e.1)
            exact h1 (by rw [this.1]; rfl)
          rw [if_neg w1, if_neg (by decide)]
          rfl
      · rw [if_neg h2] at hc
        exact absurd hc (by simp)
theorem SymJoin : plaitinglaw1_SymJoin.Pure := by
  intro l0 l1 a2 a3 _ _ _ _ _ _ _ _
  refine ⟨3000, ?_⟩
  obtain ⟨k, hk⟩ : ∃ k : Nat, k = 3000 := ⟨_, rfl⟩
  rw [← hk]
  unfold plaitinglaw1_SymJoin.f
  have t0 := textL_len l0
  have t1 := textL_len l1
  have hcl := cleanL_len (textL l0)
  rw [known1 k (by omega), Option.bind_some, if_pos rfl, text_eq l0 k (by omega), Option.bind_some, sym_Clean_eq _ (by omega), Option.bind_some, text_eq l1 k (by omega), Option.bind_some]
  have hid := cleanL_idem (textL l0)
  generalize cleanL (textL l0) = a at *
  generalize textL l1 = b at t1
  have za := S_size a
  have zb := S_size b
  have hlb := cleanL_len b
  rw [if_pos (by omega), S_append, sym_Clean_eq _ (by rw [List.length_append]; omega), Option.bind_some, sym_Whole_eq a (by omega), Option.bind_some, cleanL_join a b hid]
  by_cases hw : wholeL a = true
  · rw [if_pos hw, if_pos hw]
    simp
  · rw [if_neg hw, if_neg hw]
    have zs := S_size (a ++ cleanL b)
    have ls : (a ++ cleanL b).length = a.length + (cleanL b).length := List.length_append
    have hf : frontL a (a ++ cleanL b) = true := by
      have := frontL_take (a ++ cleanL b) a.length
      rwa [List.take_left] at this
    have happ : S a ++ S (cleanL b) = S (a ++ cleanL b) := S_append _ _
    have zcb := S_size (cleanL b)
    generalize a ++ cleanL b = s at *
    have hsl : s.length ≤ 1000 := by omega
    have hsb : s.length ≤ 4611686018427387904 := by omega
    rw [zs, w64_succ _ hsb]
    obtain ⟨i, hi, hiN⟩ := within1_nat a2 (s.length + 1) (Nat.succ_pos _) (by omega)
    rw [hi, Option.bind_some]
    clear hi
    obtain ⟨j, hj, hji⟩ := within1_nat a3 (i + 1) (Nat.succ_pos _) (by omega)
    rw [w64_succ i (by omega), hj, Option.bind_some]
    clear hj
    rw [ref_Clean_eq b (by omega) k (by omega), Option.bind_some, if_pos (by omega), happ, if_pos rfl, if_pos (by omega), if_pos (by omega), Int.toNat_natCast, S_take]
    have hjk : (s.take i).take j = s.take j := by rw [List.take_take, Nat.min_eq_left (by omega)]
    have hfj : frontL (s.take j) (s.take i) = true := by rw [← hjk]; exact frontL_take _ _
    have lj : (s.take j).length ≤ 1000 := by rw [List.length_take]; omega
    rw [sym_Front_eq, Option.bind_some, frontL_take, if_pos rfl, if_pos (by omega), if_pos (by omega), Int.toNat_natCast, S_take, sym_Front_eq, Option.bind_some, hfj, if_pos rfl,
      sym_Common_eq _ _ lj k (by omega), Option.bind_some, commonL_take, if_pos rfl, sym_Front_eq, Option.bind_some, hf]
end Go.Proofs.Ytnggjnhfdjjphaa.Pure
