/- The law SyncKnown, of what the walk has printed: over numbers and lists alone. -/
import Derived.Test.YtegbklmmkamjgaaPCx10
import Derived.Test.YtegbklmmkamjgaaSyncLib
namespace Go.Proofs.Ytegbklmmkamjgaa.Pure
open Go.RowKit Go.Proofs.Ytegbklmmkamjgaa.PC Go.Proofs.YtegbklmmkamjgaaW.PrintWords Go.Proofs.YtegbklmmkamjgaaW.PrintLast Go.Proofs.YtegbklmmkamjgaaW.PrintMore
theorem mid4 (l : List Int) (b c m : Int) (h1 : 4 ≤ l.length) (h2 : l.length ≤ 1000000) (h4 : ∀ x ∈ l, -1000 ≤ x ∧ x ≤ 1000) (h5 : lt_ b l ≤ 1) (h6 : 2 ≤ lt_ (b + 1) l) (h7 : gt_ c l ≤ 1) (h8 : 2 ≤ gt_ (c - 1) l) (h9 : (b + c) / 2 = m) :
    mid_Mid.f l = some (m, true) := by
  rw [Mid_some h1 h2 1000 (by decide) h4, lo_of (b := b) (by omega) h5 h6, hi_of (b := c) (by omega) h7 h8, h9]
theorem Step_s (nd : Int) (l : List S35) (h : ¬ 1000000 < l.length) (m : Int) (is : Bool) (hm : mid_Mid.f (dats l ++ [0]) = some (m, is)) : sync_Step.f 4 nd l = some m := by
  unfold sync_Step.f
  rw [if_neg h, if_pos rfl, hm]
  rfl
theorem Step_c (nd : Int) (l : List S35) (h : ¬ 1000000 < l.length) (m : Int) (is : Bool) (hm : mid_Mid.f (dats l) = some (m, is)) : sync_Step.f 3 nd l = some (if is = true then m else chosenV (fun n => decide (nd < n)) l) := by
  unfold sync_Step.f
  rw [if_neg h, if_neg (by decide), if_pos rfl, hm]
  rfl
theorem Step_l (nd : Int) (l : List S35) (h : ¬ 1000000 < l.length) : sync_Step.f 1 nd l = some (chosenV (fun _ => false) l) := by
  unfold sync_Step.f
  rw [if_neg h, if_neg (by decide), if_neg (by decide), if_pos rfl]
theorem Step_b (nd : Int) (l : List S35) (h : ¬ 1000000 < l.length) : sync_Step.f 2 nd l = some (chosenV (fun n => decide (nd < n)) l) := by
  unfold sync_Step.f
  rw [if_neg h, if_neg (by decide), if_neg (by decide), if_neg (by decide), if_pos rfl]
theorem known_0 : sync_Step.f 1 0 ([⟨2, 2, 5⟩, ⟨4, 3, 9⟩] : List S35) = some (9) := by
  rw [Step_l 0 _ (by decide)]
  simp [chosenV, idxGo, rd_T35]
theorem known_1 : sync_Step.f 4 0 ([⟨2, 2, 5⟩, ⟨4, 3, 9⟩] : List S35) = some (0) := by
  exact Step_s 0 _ (by decide) 0 false (Mid_few (by decide))
theorem known_2 : sync_Step.f 3 0 ([⟨2, 2, 5⟩, ⟨4, 3, 9⟩] : List S35) = some (9) := by
  rw [Step_c 0 _ (by decide) 0 false (Mid_few (by decide))]
  simp [chosenV, idxGo, rd_T35]
theorem known_3 : sync_Step.f 4 5 ([⟨0, 3, 1⟩, ⟨1, 3, 2⟩, ⟨2, 3, 30⟩] : List S35) = some (1) := by
  exact Step_s 5 _ (by decide) 1 true (mid4 _ 1 2 1 (by decide) (by decide) (by decide) (by decide) (by decide) (by decide) (by decide) (by decide))
theorem known_4 : sync_Step.f 3 5 ([⟨0, 3, 1⟩, ⟨1, 3, 2⟩, ⟨2, 3, 30⟩] : List S35) = some (1) := by
  rw [Step_c 5 _ (by decide) 0 false (Mid_few (by decide))]
  simp [chosenV, idxGo, rd_T35]
theorem known_5 : sync_Step.f 3 5 ([⟨0, 3, -4⟩, ⟨1, 3, 2⟩, ⟨2, 3, 7⟩, ⟨3, 3, 900⟩] : List S35) = some (4) := by
  rw [Step_c 5 _ (by decide) 4 true (mid4 _ 2 7 4 (by decide) (by decide) (by decide) (by decide) (by decide) (by decide) (by decide) (by decide))]
  rfl
theorem known_6 : sync_Step.f 4 5 ([⟨0, 3, -4⟩, ⟨1, 3, 2⟩, ⟨2, 3, 7⟩, ⟨3, 3, 900⟩] : List S35) = some (3) := by
  exact Step_s 5 _ (by decide) 3 true (mid4 _ 0 7 3 (by decide) (by decide) (by decide) (by decide) (by decide) (by decide) (by decide) (by decide))
theorem known_7 : sync_Step.f 1 5 ([⟨0, 3, -4⟩, ⟨1, 3, 2⟩, ⟨2, 3, 7⟩, ⟨3, 3, 900⟩] : List S35) = some (-4) := by
  rw [Step_l 5 _ (by decide)]
  simp [chosenV, idxGo, rd_T35]
theorem known_8 : sync_Step.f 2 5 ([⟨0, 3, -4⟩, ⟨1, 3, 2⟩, ⟨2, 3, 7⟩, ⟨3, 3, 900⟩] : List S35) = some (-4) := by
  rw [Step_b 5 _ (by decide)]
  simp [chosenV, idxGo, rd_T35]
theorem known_9 : sync_Step.f 1 0 ([⟨3, 1, 8⟩, ⟨5, 2, 6⟩] : List S35) = some (8) := by
  rw [Step_l 0 _ (by decide)]
  simp [chosenV, idxGo, rd_T35]
theorem known_10 : sync_Step.f 3 0 ([⟨3, 1, 8⟩, ⟨5, 2, 6⟩] : List S35) = some (0) := by
  rw [Step_c 0 _ (by decide) 0 false (Mid_few (by decide))]
  simp [chosenV, idxGo, rd_T35]
theorem known_11 : sync_Step.f 3 4 ([⟨3, 1, 8⟩, ⟨5, 2, 6⟩] : List S35) = some (8) := by
  rw [Step_c 4 _ (by decide) 0 false (Mid_few (by decide))]
  simp [chosenV, idxGo, rd_T35]
theorem known_12 : sync_Step.f 2 0 ([⟨3, 1, 8⟩, ⟨5, 2, 6⟩] : List S35) = some (0) := by
  rw [Step_b 0 _ (by decide)]
  simp [chosenV, idxGo, rd_T35]
theorem known_13 : sync_Step.f 2 9 ([⟨3, 1, 8⟩, ⟨5, 2, 6⟩] : List S35) = some (8) := by
  rw [Step_b 9 _ (by decide)]
  simp [chosenV, idxGo, rd_T35]
theorem known_14 : sync_Step.f 3 1 ([] : List S35) = some (0) := by
  rw [Step_c 1 _ (by decide) 0 false (Mid_few (by decide))]
  simp [chosenV, idxGo, rd_T35]
theorem known_15 : sync_Step.f 1 1 ([] : List S35) = some (0) := by
  rw [Step_l 1 _ (by decide)]
  simp [chosenV, idxGo, rd_T35]
theorem known_16 : sync_Step.f 0 9 ([⟨0, 3, -4⟩, ⟨1, 3, 2⟩, ⟨2, 3, 7⟩, ⟨3, 3, 900⟩] : List S35) = some (0) := by
  simp [sync_Step.f]
theorem SyncKnown : plaitinglaw12_SyncKnown.Pure := by
  intro a0 _
  unfold plaitinglaw12_SyncKnown.f
  obtain ⟨r, hw, r0, r1⟩ := within12 a0 16 (by decide) (by decide)
  have hw' : ∀ l : List Bool, l.length = 16 → plaitinglaw12_within.f a0 (l.length : Int) = some r := fun l e => by rw [e]; exact hw
  rw [known12, Option.bind_some, if_pos rfl]
  simp only [Option.bind_some, known_0, known_1, known_2, known_3, known_4, known_5, known_6, known_7, known_8, known_9, known_10, known_11, known_12, known_13, known_14, known_15, known_16]
  rw [if_pos trivial]
  rw [hw' _ rfl, Option.bind_some, if_pos r0]
  refine Eq.trans (if_pos (by exact r1)) ?_
  obtain ⟨n, rfl⟩ : ∃ n : Nat, r = n := ⟨r.toNat, (Int.toNat_of_nonneg r0).symm⟩
  have hn : n < 16 := Int.ofNat_lt.1 r1
  match n, hn with
  | 0, _ => rfl
  | 1, _ => rfl
  | 2, _ => rfl
  | 3, _ => rfl
  | 4, _ => rfl
  | 5, _ => rfl
  | 6, _ => rfl
  | 7, _ => rfl
  | 8, _ => rfl
  | 9, _ => rfl
  | 10, _ => rfl
  | 11, _ => rfl
  | 12, _ => rfl
  | 13, _ => rfl
  | 14, _ => rfl
  | 15, _ => rfl
end Go.Proofs.Ytegbklmmkamjgaa.Pure
