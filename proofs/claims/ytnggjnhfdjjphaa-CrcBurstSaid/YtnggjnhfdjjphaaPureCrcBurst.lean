/- The law CrcBurst, of what the walk has printed: over numbers and lists alone. -/
import Derived.Test.YtnggjnhfdjjphaaPTwox19
import Derived.Test.YtnggjnhfdjjphaaCrcLib
namespace Go.Proofs.Ytnggjnhfdjjphaa.Pure
open Go.RowKit Go.Proofs.Ytnggjnhfdjjphaa.PTwo Go.Proofs.YtnggjnhfdjjphaaW.PrintWords Go.Proofs.YtnggjnhfdjjphaaW.PrintLast Go.Proofs.YtnggjnhfdjjphaaW.PrintMore
theorem shr_bit (W i : Nat) (hi : i < 16) : Go.bits .and .i64 (shr .i64 (W : Int) (IntKind.u64.wrap (i : Int))) 1 = ((W / 2 ^ i % 2 : Nat) : Int) := by
  have e1 : IntKind.u64.wrap (i : Int) = (i : Int) := by rw [IntKind.wrap_u64]; omega
  have e2 : shr .i64 (W : Int) (i : Int) = (W : Int) / 2 ^ i := by
    unfold shr
    rw [Int.toNat_natCast, Nat.min_eq_left (by simp [IntKind.bits]; omega)]
  rw [e1, e2, and_one]
  exact_mod_cast rfl
theorem burst_loop (N W c q : Nat) (hN : N ≤ 300) (hc : c + 16 + q = N) (hW0 : W ≠ 0) (hW : W < 65536) : ∀ (d k i : Nat) (w : List UInt8), i + d = 16 → 2000 + d < k → isBits w → w.length = N → syn w = tt (q + 16) (revB W i) →
    plaitinglaw2_CrcBurst.l0 k (S (w ++ [35])) c W i = some true := by
  intro d
  induction d with
  | zero =>
    intro k i w hi hk hb hl hs
    obtain ⟨k, rfl⟩ : ∃ q, k = q + 1 := ⟨k - 1, by omega⟩
    simp only [plaitinglaw2_CrcBurst.l0]
    obtain rfl : i = 16 := by omega
    have hne : syn w ≠ 0 := by
      rw [hs]
      exact fun h => revB_ne W hW0 hW (tt_zero _ _ (revB_lt W 16 (Nat.le_refl _)) h)
    rw [if_neg (by decide), crc_Open_bits w hb (by omega) k (by omega), Option.bind_some, openW_no w (by omega) hne, if_pos rfl]
    show some ((S []).toList == []) = some true
    rw [S_list]
    rfl
  | succ d ih =>
    intro k i w hi hk hb hl hs
    obtain ⟨k, rfl⟩ : ∃ q, k = q + 1 := ⟨k - 1, by omega⟩
    have hci : wrap64 ((c : Int) + (i : Int)) = ((c + i : Nat) : Int) := by rw [w64 _ (by omega) (by omega)]; omega
    have hu : 0 ≤ IntKind.u64.wrap (i : Int) := by rw [IntKind.wrap_u64]; omega
    have hlt : (i : Int) < 16 := by omega
    have hi4 : i ≤ 4611686018427387904 := by omega
    simp only [plaitinglaw2_CrcBurst.l0]
    rw [if_pos hlt, if_pos hu, shr_bit W i (by omega), hci, w64_succ i hi4]
    clear hci hu
    have htb : W.testBit i = decide (W / 2 ^ i % 2 = 1) := Nat.testBit_eq_decide_div_mod_eq
    by_cases hbit : W / 2 ^ i % 2 = 1
    · have hwt : W.testBit i = true := by rw [htb]; exact decide_eq_true hbit
      have hr : revB W (i + 1) = revB W i ^^^ 2 ^ (15 - i) := by rw [revB, if_pos hwt]
      have hp : 2 ^ (15 - i) < 65536 := Nat.lt_of_le_of_lt (Nat.pow_le_pow_right (show 0 < 2 by decide) (show 15 - i ≤ 15 by omega)) (by decide)
      rw [if_pos (by rw [hbit]; rfl), ref_Turn_eq _ (c + i) (by rw [List.length_append]; omega) (by rw [List.length_append]; simp; omega) k (by omega), Option.bind_some, turnL_tail w (c + i) (by omega)]
      refine ih k (i + 1) _ (by omega) (by omega) (turnL_bits w _ hb) (by rw [turnL_length]; exact hl) ?_
      rw [syn_turn w (c + i) hb (by omega), hs, hr, tt_xor _ _ _ (revB_lt W i (by omega)) hp, ← burst_place q i (by omega)]
      congr 2
      omega
    · have hwt : ¬ W.testBit i = true := by rw [htb]; simpa using hbit
      rw [if_neg (fun h => hbit (by exact_mod_cast h))]
      refine ih k (i + 1) w (by omega) (by omega) hb hl ?_
      rw [hs, revB, if_neg hwt]
theorem CrcBurst : plaitinglaw2_CrcBurst.Pure := by
  intro l0 a1 a2 _ _ _ _ _
  refine ⟨3000, ?_⟩
  obtain ⟨k, hk⟩ : ∃ k : Nat, k = 3000 := ⟨_, rfl⟩
  rw [← hk]
  unfold plaitinglaw2_CrcBurst.f
  obtain ⟨l, hb, hl, hf⟩ := lawBits l0
  have hw := wrapL_length l
  have hwb := wrapL_bits l hb
  have hsyn : syn (wrapL l) = 0 := syn_wrap l
  rw [known2 k (by omega), Option.bind_some, if_pos rfl, hf k (by omega), Option.bind_some, ref_Wrap_eq l hb (by omega) k (by omega), Option.bind_some]
  clear hf
  generalize wrapL l = w at *
  have hz : (S (w ++ [35])).size = w.length + 1 := by rw [S_size, List.length_append]; rfl
  have hwl : w.length + 1 ≤ 4611686018427387904 := by omega
  have e1 : wrap64 (((S (w ++ [35])).size : Int) - 1) = (w.length : Int) := by
    rw [hz]; exact (w64_sub (w.length + 1) 1 (by omega) hwl).trans (by rw [Nat.add_sub_cancel])
  have e2 : wrap64 ((w.length : Int) - 15) = ((w.length - 15 : Nat) : Int) := w64_sub w.length 15 (by omega) (by omega)
  obtain ⟨c, hc, hcw⟩ := within2_nat a1 (w.length - 15) (by omega) (by omega)
  obtain ⟨v, hv, hv5⟩ := within2_nat a2 65535 (by decide) (by decide)
  have hv' : plaitinglaw2_within.f a2 65535 = some (v : Int) := hv
  have e3 : wrap64 (1 + (v : Int)) = ((1 + v : Nat) : Int) := by rw [w64 _ (by omega) (by omega)]; omega
  rw [e1, e2, hc, Option.bind_some, hv', Option.bind_some, e3]
  clear e1 e2 e3 hv hv' hc
  refine burst_loop w.length (1 + v) c (w.length - 16 - c) (by omega) (by omega) (by omega) (by omega) 16 k 0 w (by omega) (by omega) hwb rfl ?_
  rw [hsyn]
  exact (tt_nil _).symm
end Go.Proofs.Ytnggjnhfdjjphaa.Pure
