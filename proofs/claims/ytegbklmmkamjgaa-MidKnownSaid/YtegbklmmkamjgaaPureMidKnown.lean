/- The law MidKnown, of what the walk has printed: over numbers and lists alone. -/
import Derived.Test.YtegbklmmkamjgaaPBx8
import Derived.Test.YtegbklmmkamjgaaMidLib
namespace Go.Proofs.Ytegbklmmkamjgaa.Pure
open Go.RowKit Go.Proofs.Ytegbklmmkamjgaa.PB Go.Proofs.YtegbklmmkamjgaaW.PrintWords Go.Proofs.YtegbklmmkamjgaaW.PrintLast Go.Proofs.YtegbklmmkamjgaaW.PrintMore
theorem MidKnown : plaitinglaw11_MidKnown.Pure := by
  intro a0 _
  unfold plaitinglaw11_MidKnown.f
  obtain ⟨r, hw, r0, r1⟩ := within_of a0 11 (by decide) (by decide)
  have hw' : ∀ l : List (List Int), l.length = 11 → plaitinglaw11_within.f a0 (l.length : Int) = some r := fun l e => by rw [e]; exact hw
  rw [known11, Option.bind_some, if_pos rfl]
  simp only [Option.bind_some]
  rw [hw' _ rfl, Option.bind_some, if_pos r0]
  refine Eq.trans (if_pos (by exact r1)) ?_
  obtain ⟨n, rfl⟩ : ∃ n : Nat, r = n := ⟨r.toNat, (Int.toNat_of_nonneg r0).symm⟩
  have hn : n < 11 := Int.ofNat_lt.1 r1
  have hgo : ∀ (l : List Int) (b c m B : Int), 4 ≤ l.length → l.length ≤ 1000000 → B ≤ 1000000000000 → (∀ x ∈ l, -B ≤ x ∧ x ≤ B) → lt_ b l ≤ 1 → 2 ≤ lt_ (b + 1) l → gt_ c l ≤ 1 → 2 ≤ gt_ (c - 1) l → (b + c) / 2 = m →
      mid_Mid.f l = some (m, true) := by
    intro l b c m B h1 h2 h3 h4 h5 h6 h7 h8 h9
    rw [Mid_some h1 h2 B h3 h4, lo_of (b := b) (by omega) h5 h6, hi_of (b := c) (by omega) h7 h8, h9]
  match n, hn with
  | 0, _ =>
    rw [show rd_L1 _ ((0 : Nat) : Int) = [1, 2, 3, 4] from rfl, hgo [1, 2, 3, 4] 2 3 2 1000 (by decide) (by decide) (by decide) (by decide) (by decide) (by decide) (by decide) (by decide) (by decide)]
    rfl
  | 1, _ =>
    rw [show rd_L1 _ ((1 : Nat) : Int) = [4, 3, 2, 1] from rfl, hgo [4, 3, 2, 1] 2 3 2 1000 (by decide) (by decide) (by decide) (by decide) (by decide) (by decide) (by decide) (by decide) (by decide)]
    rfl
  | 2, _ =>
    rw [show rd_L1 _ ((2 : Nat) : Int) = [-1, -2, -3, -4] from rfl, hgo [-1, -2, -3, -4] (-3) (-2) (-3) 1000 (by decide) (by decide) (by decide) (by decide) (by decide) (by decide) (by decide) (by decide) (by decide)]
    rfl
  | 3, _ =>
    rw [show rd_L1 _ ((3 : Nat) : Int) = [5, 5, 5, 5] from rfl, hgo [5, 5, 5, 5] 5 5 5 1000 (by decide) (by decide) (by decide) (by decide) (by decide) (by decide) (by decide) (by decide) (by decide)]
    rfl
  | 4, _ =>
    rw [show rd_L1 _ ((4 : Nat) : Int) = [0, 0, 0, 1000] from rfl, hgo [0, 0, 0, 1000] 0 0 0 1000 (by decide) (by decide) (by decide) (by decide) (by decide) (by decide) (by decide) (by decide) (by decide)]
    rfl
  | 5, _ =>
    rw [show rd_L1 _ ((5 : Nat) : Int) = [-9, 0, 1, 1] from rfl, hgo [-9, 0, 1, 1] 0 1 0 1000 (by decide) (by decide) (by decide) (by decide) (by decide) (by decide) (by decide) (by decide) (by decide)]
    rfl
  | 6, _ =>
    rw [show rd_L1 _ ((6 : Nat) : Int) = [0, 0, -1, -1] from rfl, hgo [0, 0, -1, -1] (-1) 0 (-1) 1000 (by decide) (by decide) (by decide) (by decide) (by decide) (by decide) (by decide) (by decide) (by decide)]
    rfl
  | 7, _ =>
    rw [show rd_L1 _ ((7 : Nat) : Int) = [7, 1, 5, 3, 9] from rfl, hgo [7, 1, 5, 3, 9] 3 7 5 1000 (by decide) (by decide) (by decide) (by decide) (by decide) (by decide) (by decide) (by decide) (by decide)]
    rfl
  | 8, _ =>
    rw [show rd_L1 _ ((8 : Nat) : Int) = [1, 100, 1, 100] from rfl, hgo [1, 100, 1, 100] 1 100 50 1000 (by decide) (by decide) (by decide) (by decide) (by decide) (by decide) (by decide) (by decide) (by decide)]
    rfl
  | 9, _ =>
    rw [show rd_L1 _ ((9 : Nat) : Int) = [0, 1, 2, 3, 4, 5, 6] from rfl, hgo [0, 1, 2, 3, 4, 5, 6] 1 5 3 1000 (by decide) (by decide) (by decide) (by decide) (by decide) (by decide) (by decide) (by decide) (by decide)]
    rfl
  | 10, _ =>
    rw [show rd_L1 _ ((10 : Nat) : Int) = [-100, -7, -4, 50] from rfl, hgo [-100, -7, -4, 50] (-7) (-4) (-6) 1000 (by decide) (by decide) (by decide) (by decide) (by decide) (by decide) (by decide) (by decide) (by decide)]
    rfl
end Go.Proofs.Ytegbklmmkamjgaa.Pure
