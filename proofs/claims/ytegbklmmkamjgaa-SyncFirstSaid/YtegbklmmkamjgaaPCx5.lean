-- Written by the session's own program (wip/gen).
import Derived.Test.YtegbklmmkamjgaaPCx0
namespace Go.Proofs.Ytegbklmmkamjgaa.PC
open Go.RowKit Go.Proofs.YtegbklmmkamjgaaW.PrintWords Go.Proofs.YtegbklmmkamjgaaW.PrintLast Go.Proofs.YtegbklmmkamjgaaW.PrintMore
attribute [local go_sem] max2_int min2_int max_two min_two max_three min_three max_four min_four   -- for this text's walks alone
set_option linter.unusedVariables false
set_option linter.unusedSimpArgs false

/-! ### sync_Skew: function 23 (by hand) -/
/-! #### slices.Max, slices.Min at ints -/
theorem add_block2_ (ad : Addr) (j : Nat) : (ad.add j).block = ad.block := by unfold Addr.add; split <;> rfl
def at_ (zs : List Int) (j : Nat) : Int := zs[j]?.getD 0
theorem at_get (zs : List Int) (j : Nat) (h : j < zs.length) : at_ zs j = zs[j] := by simp [at_, h]
def mxGo : List Int → Int → Int
  | [], m => m
  | x :: l, m => mxGo l (mx m x)
def mnGo : List Int → Int → Int
  | [], m => m
  | x :: l, m => mnGo l (mn m x)
set_option maxHeartbeats 1000000 in
theorem max_walk (ad : Addr) (cap : Nat) (zs : List Int) (h0 : 0 < zs.length) (h1 : zs.length ≤ 1000000) (w : World) (hcs : ∀ j, j < zs.length → w.cell? (ad.add j) = some (.int .i64 (at_ zs j))) :
    Calls Try.prog 32 #[.slice (some ad) zs.length cap] w fun e w' => e = .returned (.int .i64 (mxGo (zs.drop 1) (at_ zs 0))) ∧ Below w.heap.size w w' := by
  have hd : decide ((zs.length : Int) < 1) = false := by simp; omega
  have hd2 : decide (zs.length < 1) = false := by rw [decide_eq_false_iff_not]; omega
  have hc0 := hcs 0 h0
  rw [Addr.add_zero'] at hc0
  generalize hr : mxGo (zs.drop 1) (at_ zs 0) = r
  go_enter Try.func32, Try.ntmps32
  go_wp2
  go_loopw [3, 4] (fun m i w' => ∃ (v : Int) (k : Nat), m = .int .i64 v ∧ i = .int .i64 k ∧ k ≤ zs.length ∧ mxGo (zs.drop k) v = r ∧ Below w.heap.size w w') (fun _ i _ => zs.length - (intOf i).toNat)
  case atStart => exact ⟨_, 1, rfl, rfl, by omega, hr, Below.refl _ _⟩
  case round =>
    obtain ⟨v, k, rfl, rfl, hk, hm, hB⟩ := hrel
    by_cases hlt : k < zs.length
    · have hck := (hB.cell (p := ad.add k) (by rw [add_block2_]; have := World.block_lt_of_cell? _ _ hc0; exact this)).trans (hcs k hlt)
      have hnext : mxGo (zs.drop (k + 1)) (mx v (at_ zs k)) = r := by
        rw [← hm, List.drop_eq_getElem_cons hlt, at_get zs k hlt]
        rfl
      go_wp2
      go_roundw
      case rel => exact ⟨_, k + 1, rfl, by simp, by omega, hnext, hB⟩
      case measure => simp [intOf]; omega
    · obtain rfl : k = zs.length := by omega
      rw [List.drop_length] at hm
      go_wp2
      go_ret
      exact ⟨by rw [← hm]; rfl, hB⟩
set_option maxHeartbeats 1000000 in
theorem min_walk (ad : Addr) (cap : Nat) (zs : List Int) (h0 : 0 < zs.length) (h1 : zs.length ≤ 1000000) (w : World) (hcs : ∀ j, j < zs.length → w.cell? (ad.add j) = some (.int .i64 (at_ zs j))) :
    Calls Try.prog 33 #[.slice (some ad) zs.length cap] w fun e w' => e = .returned (.int .i64 (mnGo (zs.drop 1) (at_ zs 0))) ∧ Below w.heap.size w w' := by
  have hd : decide ((zs.length : Int) < 1) = false := by simp; omega
  have hd2 : decide (zs.length < 1) = false := by rw [decide_eq_false_iff_not]; omega
  have hc0 := hcs 0 h0
  rw [Addr.add_zero'] at hc0
  generalize hr : mnGo (zs.drop 1) (at_ zs 0) = r
  go_enter Try.func33, Try.ntmps33
  go_wp2
  go_loopw [3, 4] (fun m i w' => ∃ (v : Int) (k : Nat), m = .int .i64 v ∧ i = .int .i64 k ∧ k ≤ zs.length ∧ mnGo (zs.drop k) v = r ∧ Below w.heap.size w w') (fun _ i _ => zs.length - (intOf i).toNat)
  case atStart => exact ⟨_, 1, rfl, rfl, by omega, hr, Below.refl _ _⟩
  case round =>
    obtain ⟨v, k, rfl, rfl, hk, hm, hB⟩ := hrel
    by_cases hlt : k < zs.length
    · have hck := (hB.cell (p := ad.add k) (by rw [add_block2_]; have := World.block_lt_of_cell? _ _ hc0; exact this)).trans (hcs k hlt)
      have hnext : mnGo (zs.drop (k + 1)) (mn v (at_ zs k)) = r := by
        rw [← hm, List.drop_eq_getElem_cons hlt, at_get zs k hlt]
        rfl
      go_wp2
      go_roundw
      case rel => exact ⟨_, k + 1, rfl, by simp, by omega, hnext, hB⟩
      case measure => simp [intOf]; omega
    · obtain rfl : k = zs.length := by omega
      rw [List.drop_length] at hm
      go_wp2
      go_ret
      exact ⟨by rw [← hm]; rfl, hB⟩
/-- How far numbers are apart. -/
def sync_Skew.f (l0 : List Int) : Option Int :=
  if l0.length = 0 then some 0 else if 1000000 < l0.length then none else some (wrap64 (mxGo (l0.drop 1) (at_ l0 0) - mnGo (l0.drop 1) (at_ l0 0)))
set_option maxHeartbeats 1000000 in
theorem sync_Skew.calls (A0 : Option Addr) (c0 : Nat) (l0 : List Int) (r : Int) (w : World) (hr0 : Kd.C (Kd.int .i64) w A0 l0.length l0) (hc0 : l0.length ≤ c0) (h : sync_Skew.f l0 = some r) :
    Calls Try.prog 23 #[.slice A0 l0.length c0] w fun e w' => e = .returned (.int .i64 r) ∧ Below w.heap.size w w' := by
  unfold sync_Skew.f at h
  by_cases h0 : l0.length = 0
  · rw [if_pos h0] at h
    obtain rfl := Option.some.inj h
    have hd : decide ((l0.length : Int) = 0) = true := by rw [decide_eq_true_eq]; omega
    have hd2 : ((l0.length : Int) == 0) = true := by rw [beq_iff_eq]; omega
    go_enter Try.func23, Try.ntmps23
    go_wp2
    go_ret
    exact ⟨rfl, Below.refl _ _⟩
  · rw [if_neg h0] at h
    by_cases hm : 1000000 < l0.length
    · rw [if_pos hm] at h
      exact absurd h (by simp)
    · rw [if_neg hm] at h
      obtain rfl := Option.some.inj h
      obtain ⟨_, _, hrow⟩ := hr0
      obtain ⟨ad, rfl, hcell⟩ := hrow (by omega)
      have hcs : ∀ j, j < l0.length → w.cell? (ad.add j) = some (.int .i64 (at_ l0 j)) := by
        intro j hj
        obtain ⟨c, _, hk, hcc⟩ := hcell j _ (List.getElem?_eq_getElem hj)
        obtain rfl : c = [.int .i64 l0[j]] := hk
        have := hcc 0 _ rfl
        rw [show j * (Kd.int .i64).sz + 0 = j by show j * 1 + 0 = j; omega] at this
        rw [this, at_get l0 j hj]
      have hb : ad.block < w.heap.size := by
        have := World.block_lt_of_cell? _ _ (hcs 0 (by omega))
        rwa [add_block2_] at this
      have hd : decide ((l0.length : Int) = 0) = false := by rw [decide_eq_false_iff_not]; omega
      have hd2 : ((l0.length : Int) == 0) = false := by rw [beq_eq_false_iff_ne]; omega
      have cM := max_walk ad c0 l0 (by omega) (by omega) w hcs
      have cN := fun (W : World) (hW : ∀ j, j < l0.length → W.cell? (ad.add j) = some (.int .i64 (at_ l0 j))) => min_walk ad c0 l0 (by omega) (by omega) W hW
      generalize mxGo (l0.drop 1) (at_ l0 0) = x at cM
      generalize mnGo (l0.drop 1) (at_ l0 0) = y at cN
      go_enter Try.func23, Try.ntmps23
      go_wp2_with (first
        | (go_at_call 32; refine cM.mono ?_; rintro e W ⟨rfl, hB⟩; have cN2 := cN W (fun j hj => (hB.cell (p := ad.add j) (by rw [add_block2_]; exact hb)).trans (hcs j hj)))
        | (go_at_call 33; refine cN2.mono ?_; rintro e W2 ⟨rfl, hB2⟩))
      go_ret
      exact ⟨rfl, hB.trans (hB2.mono hB.size)⟩

end Go.Proofs.Ytegbklmmkamjgaa.PC
