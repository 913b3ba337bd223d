/- The law MidAll, of what the walk has printed: over numbers and lists alone. -/
import Derived.Test.YtegbklmmkamjgaaPBx5
import Derived.Test.YtegbklmmkamjgaaMidLib
namespace Go.Proofs.Ytegbklmmkamjgaa.Pure
open Go.RowKit Go.Proofs.Ytegbklmmkamjgaa.PB Go.Proofs.YtegbklmmkamjgaaW.PrintWords Go.Proofs.YtegbklmmkamjgaaW.PrintLast Go.Proofs.YtegbklmmkamjgaaW.PrintMore
structure Four (p : List Int) (a b z y : Int) : Prop where
  ha : ∀ v, v ≤ a ↔ lt_ v p = 0
  hb : ∀ v, v ≤ b ↔ lt_ v p ≤ 1
  hz : ∀ v, z ≤ v ↔ gt_ v p = 0
  hy : ∀ v, y ≤ v ↔ gt_ v p ≤ 1
theorem Four.low0 {p : List Int} {a b : Int} (ha : ∀ v, v ≤ a ↔ lt_ v p = 0) (hb : ∀ v, v ≤ b ↔ lt_ v p ≤ 1) (x : Int) (h : x < a) :
    (∀ v, v ≤ x ↔ lt_ v (p ++ [x]) = 0) ∧ (∀ v, v ≤ a ↔ lt_ v (p ++ [x]) ≤ 1) := by
  refine ⟨fun v => ?_, fun v => ?_⟩ <;> have h1 := ha v <;> have h2 := hb v <;> rw [lt_app, lt_cons, lt_nil] <;> split <;> omega
theorem Four.low1 {p : List Int} {a b : Int} (ha : ∀ v, v ≤ a ↔ lt_ v p = 0) (hb : ∀ v, v ≤ b ↔ lt_ v p ≤ 1) (x : Int) (h : ¬ x < a) (h' : x < b) :
    (∀ v, v ≤ a ↔ lt_ v (p ++ [x]) = 0) ∧ (∀ v, v ≤ x ↔ lt_ v (p ++ [x]) ≤ 1) := by
  refine ⟨fun v => ?_, fun v => ?_⟩ <;> have h1 := ha v <;> have h2 := hb v <;> rw [lt_app, lt_cons, lt_nil] <;> split <;> omega
theorem Four.low2 {p : List Int} {a b : Int} (ha : ∀ v, v ≤ a ↔ lt_ v p = 0) (hb : ∀ v, v ≤ b ↔ lt_ v p ≤ 1) (x : Int) (h : ¬ x < a) (h' : ¬ x < b) :
    (∀ v, v ≤ a ↔ lt_ v (p ++ [x]) = 0) ∧ (∀ v, v ≤ b ↔ lt_ v (p ++ [x]) ≤ 1) := by
  refine ⟨fun v => ?_, fun v => ?_⟩ <;> have h1 := ha v <;> have h2 := hb v <;> rw [lt_app, lt_cons, lt_nil] <;> split <;> omega
theorem Four.high0 {p : List Int} {z y : Int} (hz : ∀ v, z ≤ v ↔ gt_ v p = 0) (hy : ∀ v, y ≤ v ↔ gt_ v p ≤ 1) (x : Int) (h : x > z) :
    (∀ v, x ≤ v ↔ gt_ v (p ++ [x]) = 0) ∧ (∀ v, z ≤ v ↔ gt_ v (p ++ [x]) ≤ 1) := by
  refine ⟨fun v => ?_, fun v => ?_⟩ <;> have h1 := hz v <;> have h2 := hy v <;> rw [gt_app, gt_cons, gt_nil] <;> split <;> omega
theorem Four.high1 {p : List Int} {z y : Int} (hz : ∀ v, z ≤ v ↔ gt_ v p = 0) (hy : ∀ v, y ≤ v ↔ gt_ v p ≤ 1) (x : Int) (h : ¬ x > z) (h' : x > y) :
    (∀ v, z ≤ v ↔ gt_ v (p ++ [x]) = 0) ∧ (∀ v, x ≤ v ↔ gt_ v (p ++ [x]) ≤ 1) := by
  refine ⟨fun v => ?_, fun v => ?_⟩ <;> have h1 := hz v <;> have h2 := hy v <;> rw [gt_app, gt_cons, gt_nil] <;> split <;> omega
theorem Four.high2 {p : List Int} {z y : Int} (hz : ∀ v, z ≤ v ↔ gt_ v p = 0) (hy : ∀ v, y ≤ v ↔ gt_ v p ≤ 1) (x : Int) (h : ¬ x > z) (h' : ¬ x > y) :
    (∀ v, z ≤ v ↔ gt_ v (p ++ [x]) = 0) ∧ (∀ v, y ≤ v ↔ gt_ v (p ++ [x]) ≤ 1) := by
  refine ⟨fun v => ?_, fun v => ?_⟩ <;> have h1 := hz v <;> have h2 := hy v <;> rw [gt_app, gt_cons, gt_nil] <;> split <;> omega
theorem Half_eq (n : Int) (h0 : -1000000000000 ≤ n) (h1 : n ≤ 1000000000000) : plaitingref11_Half.f n = some (n / 2) := by
  have e1 := @Int.tmod_eq_emod n 2
  have e2 := @Int.tdiv_eq_ediv n 2
  have e3 : (2 : Int).sign = 1 := rfl
  have e4 : (2 : Int).natAbs = 2 := rfl
  rw [e4] at e1
  rw [e3] at e2
  unfold plaitingref11_Half.f
  by_cases hn : n < 0
  · rw [if_pos hn]
    by_cases hd : (2 : Int) ∣ n
    · rw [if_pos (.inr hd)] at e1 e2
      rw [if_pos (by omega), w64 _ (by omega) (by omega)]
      congr 1
      omega
    · rw [if_neg (by omega)] at e1 e2
      rw [if_neg (by omega), w64 (Int.tdiv n 2) (by omega) (by omega), w64 _ (by omega) (by omega)]
      congr 1
      omega
  · rw [if_neg hn]
    rw [if_pos (.inl (by omega))] at e1 e2
    rw [w64 _ (by omega) (by omega)]
    congr 1
    omega
theorem ref_l0 (l : List Int) (B : Int) (hB0 : B ≤ 10000000) (h4 : 4 ≤ l.length) (h30 : l.length ≤ 1000) (hb : ∀ x ∈ l, -B ≤ x ∧ x ≤ B) : ∀ (d k i : Nat) (a b z y : Int), i + d = l.length → 2 * d + 1 < k → Four (l.take i) a b z y →
    plaitingref11_Mid.l0 k l a b z y i = mid_Mid.f l := by
  intro d
  induction d with
  | zero =>
    intro k i a b z y hi hk hf
    obtain ⟨k, rfl⟩ : ∃ q, k = q + 1 := ⟨k - 1, by omega⟩
    obtain rfl : i = l.length := by omega
    obtain ⟨_, f2, _, f4⟩ := hf
    rw [List.take_length] at f2 f4
    obtain rfl := lo_unique (by omega) f2
    obtain rfl := hi_unique (by omega) f4
    have n1 := lo_ge (l := l) (by omega) (fun x hx => (hb x hx).1)
    have n2 := hi_le (l := l) (by omega) (fun x hx => (hb x hx).2)
    have n3 := lo_le_hi (l := l) (by omega)
    simp only [plaitingref11_Mid.l0]
    rw [if_neg (by omega), w64 _ (by omega) (by omega), Half_eq _ (by omega) (by omega), Mid_some h4 (by omega) B (by omega) hb]
    rfl
  | succ d ih =>
    intro k i a b z y hi hk hf
    obtain ⟨k, rfl⟩ : ∃ q, k = q + 1 + 1 := ⟨k - 2, by omega⟩
    have hil : i < l.length := by omega
    have e : l.take (i + 1) = l.take i ++ [l[i]] := List.take_succ_eq_append_getElem hil
    obtain ⟨f1, f2, f3, f4⟩ := hf
    have hhigh : ∀ a' b', (∀ v, v ≤ a' ↔ lt_ v (l.take i ++ [l[i]]) = 0) ∧ (∀ v, v ≤ b' ↔ lt_ v (l.take i ++ [l[i]]) ≤ 1) → plaitingref11_Mid.j1 (k + 1) l a' b' z y i l[i] = mid_Mid.f l := by
      rintro a' b' ⟨g1, g2⟩
      simp only [plaitingref11_Mid.j1]
      rw [w64_succ' i (by omega)]
      by_cases hz : l[i] > z
      · obtain ⟨g3, g4⟩ := Four.high0 f3 f4 l[i] hz
        rw [if_pos hz]
        exact ih k (i + 1) _ _ _ _ (by omega) (by omega) (by rw [e]; exact ⟨g1, g2, g3, g4⟩)
      · rw [if_neg hz]
        by_cases hy : l[i] > y
        · obtain ⟨g3, g4⟩ := Four.high1 f3 f4 l[i] hz hy
          rw [if_pos hy]
          exact ih k (i + 1) _ _ _ _ (by omega) (by omega) (by rw [e]; exact ⟨g1, g2, g3, g4⟩)
        · obtain ⟨g3, g4⟩ := Four.high2 f3 f4 l[i] hz hy
          rw [if_neg hy]
          exact ih k (i + 1) _ _ _ _ (by omega) (by omega) (by rw [e]; exact ⟨g1, g2, g3, g4⟩)
    rw [plaitingref11_Mid.l0]
    rw [if_pos (by omega), if_pos (by omega), rd_at l i hil]
    by_cases ha : l[i] < a
    · rw [if_pos ha]
      exact hhigh _ _ (Four.low0 f1 f2 l[i] ha)
    · rw [if_neg ha]
      by_cases hb' : l[i] < b
      · rw [if_pos hb']
        exact hhigh _ _ (Four.low1 f1 f2 l[i] ha hb')
      · rw [if_neg hb']
        exact hhigh _ _ (Four.low2 f1 f2 l[i] ha hb')
theorem ref_Mid (l : List Int) (B : Int) (hB0 : B ≤ 10000000) (h30 : l.length ≤ 1000) (hb : ∀ x ∈ l, -B ≤ x ∧ x ≤ B) (k : Nat) (hk : 2 * l.length + 10 < k) : plaitingref11_Mid.f k l = mid_Mid.f l := by
  unfold plaitingref11_Mid.f
  by_cases h4 : (l.length : Int) < 4
  · rw [if_pos h4, Mid_few (by omega)]
  · rw [if_neg h4, if_pos (by omega), if_pos (by omega)]
    have e0 : rd l 0 = l[0]'(by omega) := rd_at l 0 (by omega)
    have e1 : rd l 1 = l[1]'(by omega) := rd_at l 1 (by omega)
    refine ref_l0 l B hB0 (by omega) h30 hb (l.length - 2) k 2 _ _ _ _ (by omega) (by omega) ?_
    have ep : l.take 2 = [l[0]'(by omega), l[1]'(by omega)] := by
      rw [List.take_succ_eq_append_getElem (show 1 < l.length by omega), List.take_succ_eq_append_getElem (show 0 < l.length by omega)]
      rfl
    rw [e0, e1, ep]
    generalize l[0]'(by omega) = p
    generalize l[1]'(by omega) = q
    refine ⟨fun v => ?_, fun v => ?_, fun v => ?_, fun v => ?_⟩
    · rw [lt_cons, lt_cons, lt_nil]; unfold mn; split <;> split <;> split <;> omega
    · rw [lt_cons, lt_cons, lt_nil]; unfold mx; split <;> split <;> split <;> omega
    · rw [gt_cons, gt_cons, gt_nil]; unfold mx; split <;> split <;> split <;> omega
    · rw [gt_cons, gt_cons, gt_nil]; unfold mn; split <;> split <;> split <;> omega
/-- The turning about: two places at a time change theirs. -/
theorem all_l1 (l : List Int) (m : Int) (is : Bool) (hm : mid_Mid.f l = some (m, is)) (h30 : l.length ≤ 1000) : ∀ (d k i : Nat) (t : List Int), i + d = t.length / 2 → d < k → t.Perm l →
    plaitinglaw11_MidAll.l1 k m is m is t i = some true := by
  intro d
  induction d with
  | zero =>
    intro k i t hi hk hp
    obtain ⟨k, rfl⟩ : ∃ q, k = q + 1 := ⟨k - 1, by omega⟩
    have hl := hp.length_eq
    simp only [plaitinglaw11_MidAll.l1]
    rw [w64 _ (by omega) (by omega), if_neg (by omega), Mid_perm hp, hm]
    simp
  | succ d ih =>
    intro k i t hi hk hp
    obtain ⟨k, rfl⟩ : ∃ q, k = q + 1 := ⟨k - 1, by omega⟩
    have hl := hp.length_eq
    have hil : i < t.length := by omega
    have hjl : t.length - 1 - i < t.length := by omega
    have e1 : wrap64 (wrap64 ((t.length : Int) - 1) - (i : Int)) = ((t.length - 1 - i : Nat) : Int) := by
      rw [w64 ((t.length : Int) - 1) (by omega) (by omega), w64 _ (by omega) (by omega)]
      omega
    have hgo := ih k (i + 1) ((t.set i (t[t.length - 1 - i]'hjl)).set (t.length - 1 - i) (t[i]'hil)) (by simp; omega) (by omega) ((List.set_set_perm hil hjl).trans hp)
    simp only [plaitinglaw11_MidAll.l1]
    rw [w64 _ (by omega) (by omega), if_pos (by omega), e1, if_pos (by omega), if_pos (by omega), if_pos (by omega), if_pos (by omega), rd_at t _ hjl, rd_at t i hil, w64_succ' i (by omega), Int.toNat_natCast, Int.toNat_natCast]
    exact hgo
theorem turn_at (l : List Int) (r i : Nat) (hr : r < l.length) (hi : i < l.length) : (l.drop r ++ l.take r)[i]? = l[(i + r) % l.length]? := by
  by_cases h : i < l.length - r
  · rw [List.getElem?_append_left (by rw [List.length_drop]; exact h), List.getElem?_drop, Nat.mod_eq_of_lt (by omega), Nat.add_comm]
  · rw [List.getElem?_append_right (by rw [List.length_drop]; omega), List.length_drop, List.getElem?_take_of_lt (by omega), Nat.mod_eq_sub_mod (by omega), Nat.mod_eq_of_lt (by omega)]
    congr 1
    omega
theorem all_l0 (l : List Int) (by_ : Int) (m : Int) (is : Bool) (hm : mid_Mid.f l = some (m, is)) (h30 : l.length ≤ 1000) (r : Nat) (hr : 0 < l.length → r < l.length ∧ plaitinglaw11_within.f by_ (l.length : Int) = some (r : Int)) :
    ∀ (d k i : Nat), i + d = l.length → d + l.length + 2 < k → plaitinglaw11_MidAll.l0 k by_ l m is m is ((l.drop r ++ l.take r).take i) i = some true := by
  have hlen : (l.drop r ++ l.take r).length = l.length := by rw [List.length_append, List.length_drop, List.length_take]; omega
  have hperm : (l.drop r ++ l.take r).Perm l := by
    refine List.perm_append_comm.trans ?_
    rw [List.take_append_drop]
  intro d
  induction d with
  | zero =>
    intro k i hi hk
    obtain ⟨k, rfl⟩ : ∃ q, k = q + 1 := ⟨k - 1, by omega⟩
    obtain rfl : i = l.length := by omega
    simp only [plaitinglaw11_MidAll.l0]
    rw [if_neg (by omega), List.take_of_length_le (by omega)]
    exact all_l1 l m is hm h30 ((l.drop r ++ l.take r).length / 2) k 0 _ (by omega) (by omega) hperm
  | succ d ih =>
    intro k i hi hk
    obtain ⟨k, rfl⟩ : ∃ q, k = q + 1 := ⟨k - 1, by omega⟩
    have hil : i < l.length := by omega
    obtain ⟨hrl, hw⟩ := hr (by omega)
    have hgo := ih k (i + 1) (by omega) (by omega)
    have e1 : wrap64 ((i : Int) + (r : Int)) = ((i + r : Nat) : Int) := by
      rw [w64 _ (by omega) (by omega)]
      omega
    have hml : (i + r) % l.length < l.length := Nat.mod_lt _ (by omega)
    have e2 : Int.tmod ((i + r : Nat) : Int) (l.length : Int) = (((i + r) % l.length : Nat) : Int) := Int.ofNat_tmod _ _
    have e3 : (l.drop r ++ l.take r).take (i + 1) = (l.drop r ++ l.take r).take i ++ [l[(i + r) % l.length]'hml] := by
      rw [List.take_succ_eq_append_getElem (by omega)]
      congr 2
      have := turn_at l r i hrl hil
      rw [List.getElem?_eq_getElem (by omega), List.getElem?_eq_getElem hml] at this
      simpa using this
    rw [e3] at hgo
    simp only [plaitinglaw11_MidAll.l0]
    rw [if_pos (by omega), hw]
    simp only [Option.bind_some]
    rw [if_neg (by omega), e1, e2, if_pos (Int.natCast_nonneg _), if_pos (Int.ofNat_lt.2 hml), rd_at l _ hml, if_pos (by rw [List.length_take]; omega), w64_succ' i (by omega)]
    exact hgo
theorem MidAll : plaitinglaw11_MidAll.Pure := by
  intro l0 a1 a2 _ _ _ _ _
  refine ⟨200, ?_⟩
  unfold plaitinglaw11_MidAll.f
  obtain ⟨s, hs, s0, s1⟩ := within_of a1 1048576 (by decide) (by decide)
  obtain ⟨l, hl, hlen, hb⟩ := some_ok l0 (1 + s) (by omega) (by omega) 200 (by decide)
  rw [known11, Option.bind_some, if_pos rfl, hs, Option.bind_some, w64 (1 + s) (by omega) (by omega), hl, Option.bind_some, ref_Mid l (1 + s) (by omega) (by omega) hb 200 (by omega)]
  obtain ⟨m, is, hm⟩ : ∃ m is, mid_Mid.f l = some (m, is) := by
    by_cases h4 : l.length < 4
    · exact ⟨_, _, Mid_few h4⟩
    · exact ⟨_, _, Mid_some (by omega) (by omega) (1 + s) (by omega) hb⟩
  rw [hm]
  simp only [Option.bind_some]
  by_cases h0 : 0 < l.length
  · obtain ⟨r, hw, r0, r1⟩ := within_of a2 (l.length : Int) (by omega) (by omega)
    obtain ⟨c, rfl⟩ : ∃ n : Nat, r = n := ⟨r.toNat, (Int.toNat_of_nonneg r0).symm⟩
    exact all_l0 l a2 m is hm (by omega) c (fun _ => ⟨by omega, hw⟩) l.length 200 0 (by omega) (by omega)
  · exact all_l0 l a2 m is hm (by omega) 0 (fun h => absurd h h0) l.length 200 0 (by omega) (by omega)
end Go.Proofs.Ytegbklmmkamjgaa.Pure
