/- The law QueueApart, of what the walk has printed: over numbers and lists alone. -/
import Derived.Test.YtnggjnhfdjjphaaPQx8
import Derived.Test.YtnggjnhfdjjphaaQueueLib
namespace Go.Proofs.Ytnggjnhfdjjphaa.Pure
open Go.RowKit Go.Proofs.Ytnggjnhfdjjphaa.PQ Go.Proofs.YtnggjnhfdjjphaaW.PrintWords Go.Proofs.YtnggjnhfdjjphaaW.PrintLast Go.Proofs.YtnggjnhfdjjphaaW.PrintMore
/-- The last part: what came in at the second queue comes out of it; the first one is full of 0, 1, 2, 3. -/
theorem apart_l3 (ns : List Int) : ∀ (d k j : Nat) (f0 f1 f2 f3 m g0 g1 g2 g3 n : Int), j + d = min ns.length 4 → d < k → Q f0 f1 f2 f3 m [0, 1, 2, 3] → Q g0 g1 g2 g3 n (((vals ns).take (min ns.length 4)).drop j) →
    plaitinglaw14_QueueApart.l3 k ns j f0 f1 f2 f3 m g0 g1 g2 g3 n = some true := by
  have e4 : mn (ns.length : Int) 4 = ((min ns.length 4 : Nat) : Int) := mn_nat _ 4
  intro d
  induction d with
  | zero =>
    intro k j f0 f1 f2 f3 m g0 g1 g2 g3 n hj hk hp hq
    obtain ⟨k, rfl⟩ : ∃ q, k = q + 1 := ⟨k - 1, by omega⟩
    have hs := send_full hp rfl 4 (by decide) (by decide)
    obtain ⟨p0, p1, p2, p3, m', hx, hp'⟩ := next_ok hp
    have hm := hp'.1
    simp only [plaitinglaw14_QueueApart.l3, queue_Queue_Len.f]
    rw [e4, if_neg (by omega), hs]
    simp only [Option.bind_some]
    rw [if_pos trivial, hx]
    simp [hm]
  | succ d ih =>
    intro k j f0 f1 f2 f3 m g0 g1 g2 g3 n hj hk hp hq
    obtain ⟨k, rfl⟩ : ∃ q, k = q + 1 := ⟨k - 1, by omega⟩
    have hjl : j < ns.length := by omega
    have htl : ((vals ns).take (min ns.length 4)).length = min ns.length 4 := by rw [List.length_take, vals_len]; omega
    have hj2 : j < ((vals ns).take (min ns.length 4)).length := by omega
    rw [List.drop_eq_getElem_cons hj2] at hq
    have hat : ((vals ns).take (min ns.length 4))[j]'hj2 = ns[j] % 256 := by rw [List.getElem_take, vals_at]
    rw [hat] at hq
    obtain ⟨p0, p1, p2, p3, m', hx, hq'⟩ := next_ok hq
    have hgo := ih k (j + 1) f0 f1 f2 f3 m p0 p1 p2 p3 m' (by omega) (by omega) hp hq'
    have hj4 : j ≤ 4611686018427387904 := by omega
    have hlt : (j : Int) < ((min ns.length 4 : Nat) : Int) := by omega
    simp only [plaitinglaw14_QueueApart.l3]
    rw [e4, if_pos hlt, hx]
    simp only [Option.bind_some]
    rw [if_pos (Int.natCast_nonneg j), if_pos (Int.ofNat_lt.2 hjl), rd_at ns j hjl, within256, Option.bind_some, if_neg (not_other _), w64_succ' j hj4]
    exact hgo
/-- The first queue is filled with 0, 1, 2, 3. -/
theorem apart_l2 (ns : List Int) (k : Nat) (hk : 20 < k) (f0 f1 f2 f3 m g0 g1 g2 g3 n : Int) (hp : Q f0 f1 f2 f3 m []) (hq : Q g0 g1 g2 g3 n ((vals ns).take (min ns.length 4))) :
    plaitinglaw14_QueueApart.l2 k ns 0 f0 f1 f2 f3 m g0 g1 g2 g3 n = some true := by
  obtain ⟨k, rfl⟩ : ∃ q, k = q + 1 + 1 + 1 + 1 + 1 := ⟨k - 5, by omega⟩
  obtain ⟨a0, a1, a2, a3, a4, ha, hpa⟩ := send_ok hp (by decide) 0 (by decide) (by decide)
  obtain ⟨b0, b1, b2, b3, b4, hb, hpb⟩ := send_ok hpa (by decide) 1 (by decide) (by decide)
  obtain ⟨c0, c1, c2, c3, c4, hc, hpc⟩ := send_ok hpb (by decide) 2 (by decide) (by decide)
  obtain ⟨d0, d1, d2, d3, d4, hd, hpd⟩ := send_ok hpc (by decide) 3 (by decide) (by decide)
  have e0 : wrap64 ((0 : Int) + 1) = 1 := w64 _ (by decide) (by decide)
  have e1 : wrap64 ((1 : Int) + 1) = 2 := w64 _ (by decide) (by decide)
  have e2 : wrap64 ((2 : Int) + 1) = 3 := w64 _ (by decide) (by decide)
  have e3 : wrap64 ((3 : Int) + 1) = 4 := w64 _ (by decide) (by decide)
  have hgo := apart_l3 ns (min ns.length 4) k 0 d0 d1 d2 d3 d4 g0 g1 g2 g3 n (by omega) (by omega) hpd hq
  simp only [plaitinglaw14_QueueApart.l2]
  rw [if_pos (by decide), ha]
  simp only [Option.bind_some]
  rw [if_pos trivial, e0, if_pos (by decide), hb]
  simp only [Option.bind_some]
  rw [if_pos trivial, e1, if_pos (by decide), hc]
  simp only [Option.bind_some]
  rw [if_pos trivial, e2, if_pos (by decide), hd]
  simp only [Option.bind_some]
  rw [if_pos trivial, e3, if_neg (by decide)]
  exact hgo
theorem apart_l1 (ns : List Int) : ∀ (d k j : Nat) (f0 f1 f2 f3 m g0 g1 g2 g3 n : Int), j + d = min ns.length 4 → d + 30 < k → Q g0 g1 g2 g3 n ((vals ns).take j) →
    plaitinglaw14_QueueApart.l1 k ns j f0 f1 f2 f3 m g0 g1 g2 g3 n = some true := by
  have e4 : mn (ns.length : Int) 4 = ((min ns.length 4 : Nat) : Int) := mn_nat _ 4
  intro d
  induction d with
  | zero =>
    intro k j f0 f1 f2 f3 m g0 g1 g2 g3 n hj hk hq
    obtain ⟨k, rfl⟩ : ∃ q, k = q + 1 + 1 := ⟨k - 2, by omega⟩
    obtain rfl : j = min ns.length 4 := by omega
    have hn := hq.1
    rw [List.length_take, vals_len, show min (min ns.length 4) ns.length = min ns.length 4 by omega] at hn
    have hx := next_nil (Q_nil 0 0 0 0)
    have hgo := apart_l2 ns k (by omega) 0 0 0 0 0 g0 g1 g2 g3 n (Q_nil _ _ _ _) hq
    simp only [plaitinglaw14_QueueApart.l1, queue_Queue_Clear.f, queue_Queue_Len.f]
    rw [e4, if_neg (by omega)]
    simp only [Option.bind_some]
    rw [if_pos trivial, if_pos hn, hx]
    simp only [Option.bind_some, plaitinglaw14_QueueApart.j2]
    rw [if_neg (by decide)]
    exact hgo
  | succ d ih =>
    intro k j f0 f1 f2 f3 m g0 g1 g2 g3 n hj hk hq
    obtain ⟨k, rfl⟩ : ∃ q, k = q + 1 := ⟨k - 1, by omega⟩
    have hjl : j < ns.length := by omega
    have hv := mod_byte ns[j]
    obtain ⟨p0, p1, p2, p3, m', hs, hq'⟩ := send_ok hq (by rw [List.length_take]; omega) (ns[j] % 256) hv.1 hv.2
    have hnext : (vals ns).take j ++ [ns[j] % 256] = (vals ns).take (j + 1) := by
      rw [List.take_succ_eq_append_getElem (by rw [vals_len]; exact hjl), vals_at]
    rw [hnext] at hq'
    have hgo := ih k (j + 1) f0 f1 f2 f3 m p0 p1 p2 p3 m' (by omega) (by omega) hq'
    have hj4 : j ≤ 4611686018427387904 := by omega
    have hlt : (j : Int) < ((min ns.length 4 : Nat) : Int) := by omega
    simp only [plaitinglaw14_QueueApart.l1]
    rw [e4, if_pos hlt, if_pos (Int.natCast_nonneg j), if_pos (Int.ofNat_lt.2 hjl), rd_at ns j hjl, within256, Option.bind_some, hs]
    simp only [Option.bind_some]
    rw [if_pos trivial, w64_succ' j hj4]
    exact hgo
theorem apart_l0 (ns ms : List Int) : ∀ (d k j : Nat) (f0 f1 f2 f3 m : Int), j + d = min ns.length 4 → d + 60 < k → Q f0 f1 f2 f3 m ((vals ns).take j) →
    plaitinglaw14_QueueApart.l0 k ns ms j f0 f1 f2 f3 m 0 0 0 0 0 = some true := by
  have e4 : mn (ns.length : Int) 4 = ((min ns.length 4 : Nat) : Int) := mn_nat _ 4
  intro d
  induction d with
  | zero =>
    intro k j f0 f1 f2 f3 m hj hk hq
    obtain ⟨k, rfl⟩ : ∃ q, k = q + 1 := ⟨k - 1, by omega⟩
    have hgo := apart_l1 ms (min ms.length 4) k 0 f0 f1 f2 f3 m 0 0 0 0 0 (by omega) (by omega) (Q_nil 0 0 0 0)
    simp only [plaitinglaw14_QueueApart.l0]
    rw [e4, if_neg (by omega)]
    exact hgo
  | succ d ih =>
    intro k j f0 f1 f2 f3 m hj hk hq
    obtain ⟨k, rfl⟩ : ∃ q, k = q + 1 := ⟨k - 1, by omega⟩
    have hjl : j < ns.length := by omega
    have hv := mod_byte ns[j]
    obtain ⟨p0, p1, p2, p3, m', hs, hq'⟩ := send_ok hq (by rw [List.length_take]; omega) (ns[j] % 256) hv.1 hv.2
    have hnext : (vals ns).take j ++ [ns[j] % 256] = (vals ns).take (j + 1) := by
      rw [List.take_succ_eq_append_getElem (by rw [vals_len]; exact hjl), vals_at]
    rw [hnext] at hq'
    have hgo := ih k (j + 1) p0 p1 p2 p3 m' (by omega) (by omega) hq'
    have hj4 : j ≤ 4611686018427387904 := by omega
    have hlt : (j : Int) < ((min ns.length 4 : Nat) : Int) := by omega
    simp only [plaitinglaw14_QueueApart.l0]
    rw [e4, if_pos hlt, if_pos (Int.natCast_nonneg j), if_pos (Int.ofNat_lt.2 hjl), rd_at ns j hjl, within256, Option.bind_some, hs]
    simp only [Option.bind_some]
    rw [if_pos trivial, w64_succ' j hj4]
    exact hgo
theorem QueueApart : plaitinglaw14_QueueApart.Pure := by
  intro l0 l1 _ _ _ _ _ _
  refine ⟨200, ?_⟩
  unfold plaitinglaw14_QueueApart.f
  rw [known14, Option.bind_some, if_pos rfl]
  exact apart_l0 l0 l1 (min l0.length 4) 200 0 0 0 0 0 0 (by omega) (by omega) (Q_nil 0 0 0 0)
end Go.Proofs.Ytnggjnhfdjjphaa.Pure
