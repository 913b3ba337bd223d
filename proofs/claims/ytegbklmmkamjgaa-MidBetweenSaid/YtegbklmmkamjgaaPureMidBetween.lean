/- The law MidBetween, of what the walk has printed: over numbers and lists alone. -/
import Derived.Test.YtegbklmmkamjgaaPBBx4
import Derived.Test.YtegbklmmkamjgaaMidLibBB
namespace Go.Proofs.Ytegbklmmkamjgaa.Pure
open Go.RowKit Go.Proofs.Ytegbklmmkamjgaa.PBB Go.Proofs.YtegbklmmkamjgaaW.PrintWords Go.Proofs.YtegbklmmkamjgaaW.PrintLast Go.Proofs.YtegbklmmkamjgaaW.PrintMore
theorem lt_put (d v : Int) : ∀ l : List Int, lt_ v (l.map (· + d)) = lt_ (v - d) l
  | [] => rfl
  | x :: l => by
    rw [List.map_cons, lt_cons, lt_cons, lt_put d v l]
    by_cases h : x + d < v
    · rw [if_pos h, if_pos (by omega)]
    · rw [if_neg h, if_neg (by omega)]
theorem gt_put (d v : Int) : ∀ l : List Int, gt_ v (l.map (· + d)) = gt_ (v - d) l
  | [] => rfl
  | x :: l => by
    rw [List.map_cons, gt_cons, gt_cons, gt_put d v l]
    by_cases h : v < x + d
    · rw [if_pos h, if_pos (by omega)]
    · rw [if_neg h, if_neg (by omega)]
theorem lo_put (d : Int) {l : List Int} (h : 2 ≤ l.length) : lo (l.map (· + d)) = lo l + d :=
  (lo_unique (by rw [List.length_map]; exact h) (fun v => by rw [lt_put, ← lo_iff h]; omega)).symm
theorem hi_put (d : Int) {l : List Int} (h : 2 ≤ l.length) : hi (l.map (· + d)) = hi l + d :=
  (hi_unique (by rw [List.length_map]; exact h) (fun v => by rw [gt_put, ← hi_iff h]; omega)).symm
theorem lt_neg (v : Int) : ∀ l : List Int, lt_ v (l.map (fun x => -x)) = gt_ (-v) l
  | [] => rfl
  | x :: l => by
    rw [List.map_cons, lt_cons, gt_cons, lt_neg v l]
    by_cases h : -x < v
    · rw [if_pos h, if_pos (by omega)]
    · rw [if_neg h, if_neg (by omega)]
theorem gt_neg (v : Int) : ∀ l : List Int, gt_ v (l.map (fun x => -x)) = lt_ (-v) l
  | [] => rfl
  | x :: l => by
    rw [List.map_cons, gt_cons, lt_cons, gt_neg v l]
    by_cases h : v < -x
    · rw [if_pos h, if_pos (by omega)]
    · rw [if_neg h, if_neg (by omega)]
theorem lo_neg {l : List Int} (h : 2 ≤ l.length) : lo (l.map (fun x => -x)) = - hi l :=
  (lo_unique (by rw [List.length_map]; exact h) (fun v => by rw [lt_neg, ← hi_iff h]; omega)).symm
theorem hi_neg {l : List Int} (h : 2 ≤ l.length) : hi (l.map (fun x => -x)) = - lo l :=
  (hi_unique (by rw [List.length_map]; exact h) (fun v => by rw [gt_neg, ← lo_iff h]; omega)).symm
theorem between_end {l : List Int} (h4 : 4 ≤ l.length) (h30 : l.length ≤ 30) (hb : ∀ x ∈ l, -1000000 ≤ x ∧ x ≤ 1000000) (d : Int) (d0 : 0 ≤ d) (d1 : d < 1000000) (k : Nat) :
    plaitinglaw11_MidBetween.l0 (k + 1) d l ((lo l + hi l) / 2) true (l.map (· + d)) (l.map (fun x => -x)) (lt_ ((lo l + hi l) / 2 + 1) l : Int) (gt_ ((lo l + hi l) / 2 - 1) l : Int) (l.length : Int) = some true := by
  have g1 := lo_ge (l := l) (by omega) (fun x hx => (hb x hx).1)
  have g2 := hi_le (l := l) (by omega) (fun x hx => (hb x hx).2)
  have g3 := lo_le_hi (l := l) (by omega)
  have hb1 : ∀ x ∈ l.map (· + d), -3000000 ≤ x ∧ x ≤ 3000000 := by
    intro x hx
    obtain ⟨y, hy, rfl⟩ := List.mem_map.1 hx
    have := hb y hy
    omega
  have hb2 : ∀ x ∈ l.map (fun x => -x), -3000000 ≤ x ∧ x ≤ 3000000 := by
    intro x hx
    obtain ⟨y, hy, rfl⟩ := List.mem_map.1 hx
    have := hb y hy
    omega
  have c1 : 2 ≤ lt_ ((lo l + hi l) / 2 + 1) l := by
    have := lo_iff (l := l) (by omega) ((lo l + hi l) / 2 + 1)
    refine Nat.not_lt.1 fun hc => ?_
    have := this.2 (by omega)
    omega
  have c2 : 2 ≤ gt_ ((lo l + hi l) / 2 - 1) l := by
    have := hi_iff (l := l) (by omega) ((lo l + hi l) / 2 - 1)
    refine Nat.not_lt.1 fun hc => ?_
    have := this.2 (by omega)
    omega
  have e1 : mid_Mid.f (l.map (· + d)) = some ((lo l + d + (hi l + d)) / 2, true) := by
    rw [Mid_some (by rw [List.length_map]; exact h4) (by rw [List.length_map]; omega) 3000000 (by decide) hb1, lo_put d (by omega), hi_put d (by omega)]
  have e2 : mid_Mid.f (l.map (fun x => -x)) = some ((- hi l + - lo l) / 2, true) := by
    rw [Mid_some (by rw [List.length_map]; exact h4) (by rw [List.length_map]; omega) 3000000 (by decide) hb2, lo_neg (by omega), hi_neg (by omega)]
  generalize lt_ ((lo l + hi l) / 2 + 1) l = b at c1 ⊢
  generalize gt_ ((lo l + hi l) / 2 - 1) l = a at c2 ⊢
  generalize lo l = p at *
  generalize hi l = q at *
  simp only [plaitinglaw11_MidBetween.l0]
  rw [if_neg (by omega), e1, e2, Option.bind_some, Option.bind_some, if_pos trivial, if_pos rfl, if_pos rfl, w64 ((p + q) / 2 + d) (by omega) (by omega), if_pos (by omega), w64 (-((p + q) / 2)) (by omega) (by omega), w64 (-((p + q) / 2) - 1) (by omega) (by omega)]
  by_cases h : (-q + -p) / 2 = -((p + q) / 2)
  · rw [if_pos h, if_pos (by omega)]
    exact congrArg some (decide_eq_true (by omega))
  · rw [if_neg h, if_pos (by omega), if_pos (by omega)]
    exact congrArg some (decide_eq_true (by omega))
theorem between_l0 {l : List Int} (h4 : 4 ≤ l.length) (h30 : l.length ≤ 30) (hb : ∀ x ∈ l, -1000000 ≤ x ∧ x ≤ 1000000) (dd : Int) (d0 : 0 ≤ dd) (d1 : dd < 1000000) (m : Int) (hm : m = (lo l + hi l) / 2) : ∀ (d k i : Nat), i + d = l.length → 2 * d < k →
    plaitinglaw11_MidBetween.l0 k dd l m true ((l.take i).map (· + dd)) ((l.take i).map (fun x => -x)) (lt_ (m + 1) (l.take i) : Int) (gt_ (m - 1) (l.take i) : Int) (i : Int) = some true := by
  intro d
  induction d with
  | zero =>
    intro k i hi hk
    obtain ⟨k, rfl⟩ : ∃ q, k = q + 1 := ⟨k - 1, by omega⟩
    obtain rfl : i = l.length := by omega
    subst hm
    rw [List.take_length]
    exact between_end h4 h30 hb dd d0 d1 k
  | succ d ih =>
    intro k i hi hk
    obtain ⟨k, rfl⟩ : ∃ q, k = q + 2 := ⟨k - 2, by omega⟩
    have hil : i < l.length := by omega
    have ih := ih k (i + 1) (by omega) (by omega)
    have hx := hb l[i] (by simp)
    rw [← List.take_append_getElem hil, List.map_append, List.map_append, List.map_singleton, List.map_singleton, lt_app, gt_app, lt_cons, gt_cons, lt_nil, gt_nil] at ih
    have hlen1 : ((l.take i).map (· + dd)).length = i := by rw [List.length_map, List.length_take]; omega
    have hlen2 : ((l.take i).map (fun x => -x)).length = i := by rw [List.length_map, List.length_take]; omega
    have hc1 : lt_ (m + 1) (l.take i) ≤ 30 := by have := lt_le (m + 1) (l.take i); rw [List.length_take] at this; omega
    have hc2 : gt_ (m - 1) (l.take i) ≤ 30 := by have : gt_ (m - 1) (l.take i) ≤ (l.take i).length := List.countP_le_length; rw [List.length_take] at this; omega
    generalize (l.take i).map (· + dd) = t at *
    generalize (l.take i).map (fun x => -x) = u at *
    generalize lt_ (m + 1) (l.take i) = b at *
    generalize gt_ (m - 1) (l.take i) = a at *
    simp only [plaitinglaw11_MidBetween.l0]
    rw [if_pos (by omega), if_pos (by omega), rd_at l i hil, w64 (l[i] + dd) (by omega) (by omega), w64 (-l[i]) (by omega) (by omega), Option.bind_some, if_pos (by rw [hlen1, List.length_singleton]; omega), Option.bind_some, Option.bind_some, if_pos (by rw [hlen2, List.length_singleton]; omega), Option.bind_some]
    have hj : ∀ b2 : Int, plaitinglaw11_MidBetween.l0 k dd l m true (t ++ [l[i] + dd]) (u ++ [-l[i]]) b2 ((a + (0 + if m - 1 < l[i] then 1 else 0) : Nat) : Int) ((i + 1 : Nat) : Int) = some true → plaitinglaw11_MidBetween.j1 (k + 1) dd l m true (t ++ [l[i] + dd]) (u ++ [-l[i]]) b2 a i = some true := by
      intro b2 h
      simp only [plaitinglaw11_MidBetween.j1]
      rw [if_pos (by omega), if_pos (by omega), rd_at l i hil, w64_succ' i (by omega)]
      by_cases hc : l[i] ≥ m
      · rw [if_pos hc, w64_succ' a (by omega)]
        rwa [if_pos (by omega)] at h
      · rw [if_neg hc]
        rwa [if_neg (by omega)] at h
    by_cases hc : l[i] ≤ m
    · rw [if_pos hc, w64_succ' b (by omega)]
      rw [if_pos (show l[i] < m + 1 by omega)] at ih
      exact hj _ (by simp only [Nat.zero_add] at ih ⊢; exact ih)
    · rw [if_neg hc]
      rw [if_neg (show ¬ l[i] < m + 1 by omega)] at ih
      exact hj _ (by simp only [Nat.zero_add] at ih ⊢; exact ih)
theorem MidBetween : plaitinglaw11_MidBetween.Pure := by
  intro l0 a1 _ _ _ _
  refine ⟨100, ?_⟩
  unfold plaitinglaw11_MidBetween.f
  obtain ⟨d, hd, d0, d1⟩ := within_of a1 1000000 (by decide) (by decide)
  obtain ⟨l, hl, hlen, hb⟩ := some_ok l0 1000000 (by decide) (by decide) 100 (by decide)
  rw [known11, Option.bind_some, if_pos rfl, hl, Option.bind_some]
  by_cases h4 : (l.length : Int) < 4
  · rw [if_pos h4]
  · rw [if_neg h4, hd, Option.bind_some, Mid_some (by omega) (by omega) 1000000 (by decide) hb, Option.bind_some]
    exact between_l0 (by omega) (by omega) hb d d0 d1 _ rfl l.length 100 0 (by omega) (by omega)
end Go.Proofs.Ytegbklmmkamjgaa.Pure
