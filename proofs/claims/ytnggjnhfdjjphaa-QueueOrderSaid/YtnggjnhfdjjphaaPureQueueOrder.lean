/- The law QueueOrder, of what the walk has printed: over numbers and lists alone. -/
import Derived.Test.YtnggjnhfdjjphaaPQx5
import Derived.Test.YtnggjnhfdjjphaaQueueLib
namespace Go.Proofs.Ytnggjnhfdjjphaa.Pure
open Go.RowKit Go.Proofs.Ytnggjnhfdjjphaa.PQ Go.Proofs.YtnggjnhfdjjphaaW.PrintWords Go.Proofs.YtnggjnhfdjjphaaW.PrintLast Go.Proofs.YtnggjnhfdjjphaaW.PrintMore
theorem order_l1 (ns : List Int) (n : Nat) (hn : n = min ns.length 9) : ∀ (d k j : Nat) (f0 f1 f2 f3 m : Int), j + d = min n 4 → d < k → Q f0 f1 f2 f3 m (((vals ns).take (min n 4)).drop j) →
    plaitinglaw14_QueueOrder.l1 k ns n j f0 f1 f2 f3 m = some true := by
  have e4 : mn (n : Int) 4 = ((min n 4 : Nat) : Int) := mn_nat n 4
  intro d
  induction d with
  | zero =>
    intro k j f0 f1 f2 f3 m hj hk hq
    obtain ⟨k, rfl⟩ : ∃ q, k = q + 1 := ⟨k - 1, by omega⟩
    rw [List.drop_of_length_le (by rw [List.length_take]; omega)] at hq
    have hx := next_nil hq
    simp only [plaitinglaw14_QueueOrder.l1]
    rw [e4, if_neg (by omega), hx]
    rfl
  | succ d ih =>
    intro k j f0 f1 f2 f3 m hj hk hq
    obtain ⟨k, rfl⟩ : ∃ q, k = q + 1 := ⟨k - 1, by omega⟩
    have hjl : j < ns.length := by omega
    have htl : ((vals ns).take (min n 4)).length = min n 4 := by rw [List.length_take, vals_len]; omega
    have hj2 : j < ((vals ns).take (min n 4)).length := by omega
    have hm : m = ((min n 4 - j : Nat) : Int) := by
      have := hq.1
      rw [List.length_drop, htl] at this
      exact this
    rw [List.drop_eq_getElem_cons hj2] at hq
    have hat : ((vals ns).take (min n 4))[j]'hj2 = ns[j] % 256 := by rw [List.getElem_take, vals_at]
    rw [hat] at hq
    obtain ⟨g0, g1, g2, g3, m', hx, hq'⟩ := next_ok hq
    have hgo := ih k (j + 1) g0 g1 g2 g3 m' (by omega) (by omega) hq'
    have hj4 : j ≤ 4611686018427387904 := by omega
    have hlt : (j : Int) < ((min n 4 : Nat) : Int) := by omega
    simp only [plaitinglaw14_QueueOrder.l1, queue_Queue_Len.f]
    rw [e4, if_pos hlt]
    simp only [Option.bind_some]
    rw [w64_sub' (min n 4) j (by omega) (by omega), if_pos hm, hx]
    simp only [Option.bind_some]
    rw [if_pos (Int.natCast_nonneg j), if_pos (Int.ofNat_lt.2 hjl), rd_at ns j hjl, within256, Option.bind_some, if_neg (not_other _), w64_succ' j hj4]
    exact hgo
theorem order_l0 (ns : List Int) (more : Int) (n : Nat) (hn : n = min ns.length 9) : ∀ (d k i : Nat) (f0 f1 f2 f3 m : Int), i + d = n → 2 * d + 20 < k → Q f0 f1 f2 f3 m ((vals ns).take (min i 4)) →
    plaitinglaw14_QueueOrder.l0 k ns more n i f0 f1 f2 f3 m = some true := by
  intro d
  induction d with
  | zero =>
    intro k i f0 f1 f2 f3 m hi hk hq
    obtain ⟨k, rfl⟩ : ∃ q, k = q + 1 := ⟨k - 1, by omega⟩
    obtain rfl : i = n := by omega
    simp only [plaitinglaw14_QueueOrder.l0]
    rw [if_neg (by omega)]
    exact order_l1 ns i hn (min i 4) k 0 f0 f1 f2 f3 m (by omega) (by omega) hq
  | succ d ih =>
    intro k i f0 f1 f2 f3 m hi hk hq
    obtain ⟨k, rfl⟩ : ∃ q, k = q + 1 + 1 := ⟨k - 2, by omega⟩
    have hil : i < ns.length := by omega
    have hi4 : i ≤ 4611686018427387904 := by omega
    have hv := mod_byte ns[i]
    have htl : ((vals ns).take (min i 4)).length = min i 4 := by rw [List.length_take, vals_len]; omega
    obtain ⟨q, hw, hq4, _⟩ := within14_nat more 4 (by decide) (by decide)
    have hw' : plaitinglaw14_within.f more 4 = some (q : Int) := hw
    have hbad : ∀ a0 a1 a2 a3 a4 : Int, queue_Queue_Send.f a0 a1 a2 a3 a4 (rd ([(-1), 256, (-9223372036854775808), 9223372036854775807] : List Int) (q : Int)) = some (1, a0, a1, a2, a3, a4) := by
      intro a0 a1 a2 a3 a4
      apply send_bad
      match q, hq4 with
      | 0, _ => left; decide
      | 1, _ => right; decide
      | 2, _ => left; decide
      | 3, _ => right; decide
    have hq5 : (q : Int) < ((([(-1), 256, (-9223372036854775808), 9223372036854775807] : List Int).length : Nat) : Int) := Int.ofNat_lt.2 hq4
    simp only [plaitinglaw14_QueueOrder.l0]
    rw [if_pos (by omega)]
    by_cases h4 : i < 4
    · obtain ⟨g0, g1, g2, g3, m', hs, hq'⟩ := send_ok hq (by omega) (ns[i] % 256) hv.1 hv.2
      have hnext : (vals ns).take (min i 4) ++ [ns[i] % 256] = (vals ns).take (min (i + 1) 4) := by
        rw [Nat.min_eq_left (by omega), Nat.min_eq_left (by omega), List.take_succ_eq_append_getElem (by rw [vals_len]; exact hil), vals_at]
      rw [hnext] at hq'
      have hgo := ih k (i + 1) g0 g1 g2 g3 m' (by omega) (by omega) hq'
      rw [if_neg (by omega)]
      simp only [plaitinglaw14_QueueOrder.j1]
      rw [if_pos (Int.natCast_nonneg i), if_pos (Int.ofNat_lt.2 hil), rd_at ns i hil, within256, Option.bind_some, hs]
      simp only [Option.bind_some]
      rw [if_pos trivial, hw', Option.bind_some, if_pos (Int.natCast_nonneg q), if_pos hq5, hbad]
      simp only [Option.bind_some]
      rw [if_pos trivial, w64_succ' i hi4]
      exact hgo
    · have hs := send_full hq (by omega) (ns[i] % 256) hv.1 hv.2
      rw [show min i 4 = min (i + 1) 4 by omega] at hq
      have hgo := ih k (i + 1) f0 f1 f2 f3 m (by omega) (by omega) hq
      rw [if_pos (by omega)]
      simp only [plaitinglaw14_QueueOrder.j1]
      rw [if_pos (Int.natCast_nonneg i), if_pos (Int.ofNat_lt.2 hil), rd_at ns i hil, within256, Option.bind_some, hs]
      simp only [Option.bind_some]
      rw [if_pos trivial, hw', Option.bind_some, if_pos (Int.natCast_nonneg q), if_pos hq5, hbad]
      simp only [Option.bind_some]
      rw [if_pos trivial, w64_succ' i hi4]
      exact hgo
theorem QueueOrder : plaitinglaw14_QueueOrder.Pure := by
  intro l0 a1 _ _ _ _
  refine ⟨200, ?_⟩
  unfold plaitinglaw14_QueueOrder.f
  have e9 : mn (l0.length : Int) 9 = ((min l0.length 9 : Nat) : Int) := mn_nat _ 9
  rw [known14, Option.bind_some, if_pos rfl, e9]
  exact order_l0 l0 a1 _ rfl (min l0.length 9) 200 0 0 0 0 0 0 (by omega) (by omega) (Q_nil 0 0 0 0)
end Go.Proofs.Ytnggjnhfdjjphaa.Pure
