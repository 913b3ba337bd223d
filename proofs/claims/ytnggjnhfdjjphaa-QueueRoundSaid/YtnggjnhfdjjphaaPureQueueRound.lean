/- The law QueueRound, of what the walk has printed: over numbers and lists alone. -/
import Derived.Test.YtnggjnhfdjjphaaPQx6
import Derived.Test.YtnggjnhfdjjphaaQueueLib
namespace Go.Proofs.Ytnggjnhfdjjphaa.Pure
open Go.RowKit Go.Proofs.Ytnggjnhfdjjphaa.PQ Go.Proofs.YtnggjnhfdjjphaaW.PrintWords Go.Proofs.YtnggjnhfdjjphaaW.PrintLast Go.Proofs.YtnggjnhfdjjphaaW.PrintMore
theorem round_step (ns : List Int) (c i : Nat) (hil : i < ns.length) : ((vals ns).take i).drop (i - c) ++ [ns[i] % 256] = ((vals ns).take (i + 1)).drop (i - c) := by
  rw [List.take_succ_eq_append_getElem (by rw [vals_len]; exact hil), vals_at, List.drop_append_of_le_length (by rw [List.length_take, vals_len]; omega)]
theorem round_len (ns : List Int) (c i : Nat) (hil : i ≤ ns.length) : (((vals ns).take i).drop (i - c)).length = min i c := by
  rw [List.length_drop, List.length_take, vals_len]
  omega
theorem round_l0 (ns : List Int) (c : Nat) (hc : c < 4) : ∀ (d k i : Nat) (f0 f1 f2 f3 m : Int), i + d = min ns.length 200 → 2 * d + 20 < k → Q f0 f1 f2 f3 m (((vals ns).take i).drop (i - c)) →
    plaitinglaw14_QueueRound.l0 k ns c i f0 f1 f2 f3 m = some true := by
  intro d
  induction d with
  | zero =>
    intro k i f0 f1 f2 f3 m hi hk hq
    obtain ⟨k, rfl⟩ : ∃ q, k = q + 1 + 1 := ⟨k - 2, by omega⟩
    have hend : ∀ b : Bool, b = false → plaitinglaw14_QueueRound.j1 (k + 1) ns c i b f0 f1 f2 f3 m = some true := by
      rintro b rfl
      have hm := hq.1
      rw [round_len ns c i (by omega)] at hm
      have e1 : mn (ns.length : Int) 200 = ((min ns.length 200 : Nat) : Int) := mn_nat _ 200
      simp only [plaitinglaw14_QueueRound.j1, queue_Queue_Len.f]
      rw [if_neg (by decide), e1, mn_nat]
      simp only [Option.bind_some, Option.some.injEq, beq_iff_eq]
      rw [hm, ← hi]
      simp [Nat.min_comm]
    simp only [plaitinglaw14_QueueRound.l0]
    split
    · exact hend _ (by simp; omega)
    · exact hend _ rfl
  | succ d ih =>
    intro k i f0 f1 f2 f3 m hi hk hq
    obtain ⟨k, rfl⟩ : ∃ q, k = q + 1 + 1 := ⟨k - 2, by omega⟩
    have hil : i < ns.length := by omega
    have hi4 : i ≤ 4611686018427387904 := by omega
    have hv := mod_byte ns[i]
    have hlen := round_len ns c i (by omega)
    have hd : decide ((i : Int) < 200) = true := by simp; omega
    obtain ⟨g0, g1, g2, g3, m', hs, hq'⟩ := send_ok hq (by omega) (ns[i] % 256) hv.1 hv.2
    rw [round_step ns c i hil] at hq'
    simp only [plaitinglaw14_QueueRound.l0]
    rw [if_pos (Int.ofNat_lt.2 hil), hd]
    simp only [plaitinglaw14_QueueRound.j1]
    rw [if_pos trivial, if_pos (Int.natCast_nonneg i), if_pos (Int.ofNat_lt.2 hil), rd_at ns i hil, within256, Option.bind_some, hs]
    simp only [Option.bind_some]
    rw [if_pos trivial]
    by_cases hic : c ≤ i
    · have hic4 : i - c < ns.length := by omega
      have hin : i - c < ((vals ns).take (i + 1)).length := by rw [List.length_take, vals_len]; omega
      rw [List.drop_eq_getElem_cons hin, List.getElem_take, vals_at ns (i - c) hic4] at hq'
      obtain ⟨p0, p1, p2, p3, m2, hx, hq2⟩ := next_ok hq'
      rw [show i - c + 1 = i + 1 - c by omega] at hq2
      have hgo := ih k (i + 1) p0 p1 p2 p3 m2 (by omega) (by omega) hq2
      rw [if_pos (by omega), hx]
      simp only [Option.bind_some]
      rw [w64_sub' i c hic hi4, if_pos (Int.natCast_nonneg _), if_pos (Int.ofNat_lt.2 hic4), rd_at ns (i - c) hic4, within256, Option.bind_some, if_neg (not_other _), w64_succ' i hi4]
      exact hgo
    · rw [show i - c = i + 1 - c by omega] at hq'
      have hgo := ih k (i + 1) g0 g1 g2 g3 m' (by omega) (by omega) hq'
      rw [if_neg (by omega), w64_succ' i hi4]
      exact hgo
theorem QueueRound : plaitinglaw14_QueueRound.Pure := by
  intro l0 a1 _ _ _ _
  refine ⟨1000, ?_⟩
  unfold plaitinglaw14_QueueRound.f
  obtain ⟨c, hc, hc4, _⟩ := within14_nat a1 4 (by decide) (by decide)
  have hc' : plaitinglaw14_within.f a1 4 = some (c : Int) := hc
  rw [known14, Option.bind_some, if_pos rfl, hc', Option.bind_some]
  exact round_l0 l0 c hc4 (min l0.length 200) 1000 0 0 0 0 0 0 (by omega) (by omega) (by rw [List.take_zero, List.drop_nil]; exact Q_nil 0 0 0 0)
end Go.Proofs.Ytnggjnhfdjjphaa.Pure
