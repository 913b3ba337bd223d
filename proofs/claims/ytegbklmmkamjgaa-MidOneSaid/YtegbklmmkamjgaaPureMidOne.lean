/- The law MidOne, of what the walk has printed: over numbers and lists alone. -/
import Derived.Test.YtegbklmmkamjgaaPBx7
import Derived.Test.YtegbklmmkamjgaaMidLib
namespace Go.Proofs.Ytegbklmmkamjgaa.Pure
open Go.RowKit Go.Proofs.Ytegbklmmkamjgaa.PB Go.Proofs.YtegbklmmkamjgaaW.PrintWords Go.Proofs.YtegbklmmkamjgaaW.PrintLast Go.Proofs.YtegbklmmkamjgaaW.PrintMore
theorem mn_le (a b : Int) : mn a b ≤ a ∧ mn a b ≤ b := by
  unfold mn
  split <;> omega
theorem mx_ge (a b : Int) : a ≤ mx a b ∧ b ≤ mx a b := by
  unfold mx
  split <;> omega
theorem one_end (l : List Int) (h3 : 3 ≤ l.length) (h30 : l.length ≤ 30) (hb : ∀ x ∈ l, -1000 ≤ x ∧ x ≤ 1000) (a z : Int) (ha : ∀ y ∈ l, a ≤ y) (hz : ∀ y ∈ l, y ≤ z) (c : Nat) (x : Int) (hx : -1000000 ≤ x ∧ x ≤ 1000000) :
    ∃ m, mid_Mid.f (l.take c ++ [x] ++ l.drop c) = some (m, true) ∧ a ≤ m ∧ m ≤ z := by
  have hp : (l.take c ++ [x] ++ l.drop c).Perm (x :: l) := by
    rw [List.append_assoc]
    refine (List.perm_middle (a := x) (l₁ := l.take c) (l₂ := l.drop c)).trans ?_
    rw [List.take_append_drop]
  have hlen : 4 ≤ (x :: l).length := by simp; omega
  have ea : lt_ a (x :: l) ≤ 1 := by
    rw [lt_cons, lt_zero a l ha]
    split <;> omega
  have ez : gt_ z (x :: l) ≤ 1 := by
    rw [gt_cons, gt_zero z l hz]
    split <;> omega
  have h1 := (lo_iff (l := x :: l) (by omega) a).2 ea
  have h2 := (hi_iff (l := x :: l) (by omega) z).2 ez
  have h4 := lo_le_hi (l := x :: l) (by omega)
  refine ⟨_, (Mid_perm hp).trans (Mid_some hlen (by simp; omega) 1000000 (by omega) ?_), by omega, by omega⟩
  intro y hy
  rcases List.mem_cons.1 hy with rfl | hy
  · omega
  · have := hb y hy
    omega
theorem one_l0 (l : List Int) (a1 a2 : Int) (h3 : 3 ≤ l.length) (h30 : l.length ≤ 30) (hb : ∀ x ∈ l, -1000 ≤ x ∧ x ≤ 1000) : ∀ (d k i : Nat) (a z : Int), i + d = l.length → d < k → (∀ y ∈ l.take i, a ≤ y) → (∀ y ∈ l.take i, y ≤ z) →
    plaitinglaw11_MidOne.l0 k a1 a2 l a z i = some true := by
  intro d
  induction d with
  | zero =>
    intro k i a z hi hk ha hz
    obtain ⟨k, rfl⟩ : ∃ q, k = q + 1 := ⟨k - 1, by omega⟩
    obtain rfl : i = l.length := by omega
    rw [List.take_length] at ha hz
    obtain ⟨r, hw, r0, r1⟩ := within_of a2 (((l.length + 1 : Nat)) : Int) (by omega) (by omega)
    obtain ⟨c, rfl⟩ : ∃ n : Nat, r = n := ⟨r.toNat, (Int.toNat_of_nonneg r0).symm⟩
    obtain ⟨x, hwx, x0, x1⟩ := within_of a1 2000001 (by decide) (by decide)
    obtain ⟨m, hm, m1, m2⟩ := one_end l h3 h30 hb a z ha hz c (x - 1000000) (by omega)
    simp only [plaitinglaw11_MidOne.l0]
    rw [if_neg (by omega), w64_succ' l.length (by omega), hw]
    simp only [Option.bind_some, Int.toNat_natCast, List.nil_append]
    rw [if_pos r0, if_pos (by omega), if_pos (by simp; omega), hwx]
    simp only [Option.bind_some]
    rw [if_pos (by simp; omega), w64 (x - 1000000) (by omega) (by omega), if_pos (by simp; omega), hm]
    simp only [Option.bind_some]
    rw [if_pos trivial, if_pos m1]
    simp [m2]
  | succ d ih =>
    intro k i a z hi hk ha hz
    obtain ⟨k, rfl⟩ : ∃ q, k = q + 1 := ⟨k - 1, by omega⟩
    have hil : i < l.length := by omega
    have e : l.take (i + 1) = l.take i ++ [l[i]] := List.take_succ_eq_append_getElem hil
    have g1 := mn_le a l[i]
    have g2 := mx_ge z l[i]
    have hgo := ih k (i + 1) (mn a l[i]) (mx z l[i]) (by omega) (by omega) (by
      intro y hy
      rw [e] at hy
      rcases List.mem_append.1 hy with hy | hy
      · have := ha y hy; omega
      · obtain rfl := List.mem_singleton.1 hy; omega) (by
      intro y hy
      rw [e] at hy
      rcases List.mem_append.1 hy with hy | hy
      · have := hz y hy; omega
      · obtain rfl := List.mem_singleton.1 hy; omega)
    simp only [plaitinglaw11_MidOne.l0]
    rw [if_pos (by omega), if_pos (by omega), rd_at l i hil, w64_succ' i (by omega)]
    exact hgo
theorem MidOne : plaitinglaw11_MidOne.Pure := by
  intro l0 a1 a2 _ _ _ _ _
  refine ⟨100, ?_⟩
  unfold plaitinglaw11_MidOne.f
  obtain ⟨l, hl, hlen, hb⟩ := some_ok l0 1000 (by decide) (by decide) 100 (by decide)
  rw [known11, Option.bind_some, if_pos rfl, hl, Option.bind_some]
  by_cases h4 : (l.length : Int) < 3
  · rw [if_pos h4]
  · rw [if_neg h4, if_pos (by omega)]
    exact one_l0 l a1 a2 (by omega) (by omega) hb l.length 100 0 _ _ (by omega) (by omega) (by simp) (by simp)
end Go.Proofs.Ytegbklmmkamjgaa.Pure
