/- The law SymCommon, of what the walk has printed: over numbers and lists alone. -/
import Derived.Test.YtnggjnhfdjjphaaPTwox27
import Derived.Test.YtnggjnhfdjjphaaSymLib
namespace Go.Proofs.Ytnggjnhfdjjphaa.Pure
open Go.RowKit Go.Proofs.Ytnggjnhfdjjphaa.PTwo Go.Proofs.YtnggjnhfdjjphaaW.PrintWords Go.Proofs.YtnggjnhfdjjphaaW.PrintLast Go.Proofs.YtnggjnhfdjjphaaW.PrintMore
theorem commonL_assoc : ∀ a b c : List UInt8, commonL (commonL a b) c = commonL a (commonL b c)
  | [], _, _ => by simp [commonL]
  | _ :: _, [], _ => by simp [commonL]
  | x :: l, y :: m, [] => by
    have h0 : ∀ l : List UInt8, commonL l [] = [] := fun l => by cases l <;> rfl
    rw [h0, h0, h0]
  | x :: l, y :: m, z :: n => by
    have ih := commonL_assoc l m n
    by_cases h1 : x = y
    · subst h1
      by_cases h2 : x = z
      · subst h2
        simp only [commonL, if_true]
        rw [ih]
      · simp only [commonL, if_true, if_neg h2]
    · by_cases h2 : y = z
      · subst h2
        simp only [commonL, if_true, if_neg h1]
      · simp only [commonL, if_neg h1, if_neg h2]
theorem commonL_self : ∀ a : List UInt8, commonL a a = a
  | [] => rfl
  | x :: l => by
    simp only [commonL, if_true]
    rw [commonL_self l]
theorem commonL_ahead : ∀ p a b : List UInt8, p.length ≤ (commonL (p ++ a) (p ++ b)).length
  | [], _, _ => by simp
  | x :: p, a, b => by
    have := commonL_ahead p a b
    show _ ≤ (commonL (x :: (p ++ a)) (x :: (p ++ b))).length
    simp only [commonL, if_true, List.length_cons]
    omega
theorem commonL_stop : ∀ (a b : List UInt8) (ha : (commonL a b).length < a.length) (hb : (commonL a b).length < b.length), a[(commonL a b).length]'ha ≠ b[(commonL a b).length]'hb
  | [], _, ha, _ => absurd ha (by simp)
  | _ :: _, [], _, hb => absurd hb (by simp)
  | x :: l, y :: m, ha, hb => by
    by_cases h : x = y
    · subst h
      have e : (commonL (x :: l) (x :: m)).length = (commonL l m).length + 1 := by simp [commonL]
      have := commonL_stop l m (by simp only [e, List.length_cons] at ha; omega) (by simp only [e, List.length_cons] at hb; omega)
      simp only [e, List.getElem_cons_succ]
      exact this
    · have e : (commonL (x :: l) (y :: m)).length = 0 := by simp [commonL, h]
      simp only [e, List.getElem_cons_zero]
      exact h
theorem frontL_take (a : List UInt8) (n : Nat) : frontL (a.take n) a = true := by
  unfold frontL
  rw [beq_iff_eq, List.length_take]
  by_cases h : n ≤ a.length
  · rw [Nat.min_eq_left h]
  · rw [Nat.min_eq_right (by omega), List.take_of_length_le (Nat.le_refl _), List.take_of_length_le (by omega)]
theorem SymCommon : plaitinglaw1_SymCommon.Pure := by
  intro l0 l1 l2 _ _ _ _ _ _ _ _ _
  refine ⟨3000, ?_⟩
  obtain ⟨k, hk⟩ : ∃ k : Nat, k = 3000 := ⟨_, rfl⟩
  rw [← hk]
  unfold plaitinglaw1_SymCommon.f
  have t0 := textL_len l0
  have t1 := textL_len l1
  have t2 := textL_len l2
  rw [known1 k (by omega), Option.bind_some, if_pos rfl, text_eq l2 k (by omega), Option.bind_some, text_eq l0 k (by omega), Option.bind_some, text_eq l1 k (by omega)]
  generalize textL l0 = n at t0
  generalize textL l1 = m at t1
  generalize textL l2 = p at t2
  have z0 := S_size n
  have z1 := S_size m
  have z2 := S_size p
  rw [if_pos (by omega), Option.bind_some, if_pos (by omega), Option.bind_some, S_append, S_append]
  have hx1 : frontL (commonL (p ++ n) (p ++ m)) (p ++ n) = true := by
    have := commonL_front (p ++ n) (p ++ m)
    rw [this]; exact frontL_take _ _
  have hx2 : frontL (commonL (p ++ n) (p ++ m)) (p ++ m) = true := by
    have := commonL_front (p ++ m) (p ++ n)
    rw [commonL_comm, this]; exact frontL_take _ _
  have hahead := commonL_ahead p n m
  have hstop := commonL_stop (p ++ n) (p ++ m)
  have hassoc := commonL_assoc (p ++ n) (p ++ m) n
  have hlen := commonL_len (p ++ n) (p ++ m)
  have hlx := S_size (commonL (p ++ n) (p ++ m))
  have hza := S_size (p ++ n)
  have hzb := S_size (p ++ m)
  have hla : (p ++ n).length ≤ 200 := by rw [List.length_append]; omega
  have hlb : (p ++ m).length ≤ 200 := by rw [List.length_append]; omega
  have hcomm := commonL_comm (p ++ m) (p ++ n)
  generalize p ++ n = a at *
  generalize p ++ m = b at *
  rw [sym_Common_eq a b (by omega) k (by omega), Option.bind_some, sym_Front_eq, Option.bind_some, if_pos hx1, sym_Front_eq, Option.bind_some, if_pos hx2,
    sym_Common_eq b a (by omega) k (by omega), Option.bind_some, hcomm, if_pos rfl, if_neg (by omega), Option.bind_some, sym_Common_eq _ n (by omega) k (by omega), Option.bind_some,
    sym_Common_eq b n (by omega) k (by omega), Option.bind_some, sym_Common_eq a _ (by omega) k (by omega), Option.bind_some, hassoc, if_pos rfl, sym_Common_eq a a (by omega) k (by omega), Option.bind_some,
    commonL_self, if_pos rfl, hlx]
  by_cases ea : (commonL a b).length = a.length
  · rw [if_pos (by omega)]
  · rw [if_neg (by omega)]
    by_cases eb : (commonL a b).length = b.length
    · rw [if_pos (by omega)]
    · have ha : (commonL a b).length < a.length := by omega
      have hb : (commonL a b).length < b.length := by omega
      have hba := S_bt a _ ha
      have hbb := S_bt b _ hb
      rw [if_neg (by omega), if_pos (by omega), if_pos (by omega), if_pos (by omega), hba, hbb]
      congr 1
      rw [bne_iff_ne]
      intro e
      exact hstop ha hb (u8_eq (by omega))
end Go.Proofs.Ytnggjnhfdjjphaa.Pure
