/- The law MidTwo, of what the walk has printed: over numbers and lists alone. -/
import Derived.Test.YtegbklmmkamjgaaPBTx4
import Derived.Test.YtegbklmmkamjgaaMidLibBT
namespace Go.Proofs.Ytegbklmmkamjgaa.Pure
open Go.RowKit Go.Proofs.Ytegbklmmkamjgaa.PBT Go.Proofs.YtegbklmmkamjgaaW.PrintWords Go.Proofs.YtegbklmmkamjgaaW.PrintLast Go.Proofs.YtegbklmmkamjgaaW.PrintMore
/-- Readings of numbers, each with an error. -/
def near (e : Int) : List Int → List Int → Prop
  | [], [] => True
  | x :: p, y :: c => (y - e ≤ x ∧ x ≤ y + e) ∧ near e p c
  | _, _ => False
theorem near_snoc {e x y : Int} (h : y - e ≤ x ∧ x ≤ y + e) : ∀ (p c : List Int), near e p c → near e (p ++ [x]) (c ++ [y])
  | [], [], _ => ⟨h, trivial⟩
  | _ :: p, _ :: c, hn => ⟨hn.1, near_snoc h p c hn.2⟩
theorem near_len {e : Int} : ∀ (p c : List Int), near e p c → p.length = c.length
  | [], [], _ => rfl
  | _ :: p, _ :: c, h => by rw [List.length_cons, List.length_cons, near_len p c h.2]
theorem near_all {e : Int} : ∀ (p c : List Int), near e p c → ∀ x ∈ p, ∃ y ∈ c, y - e ≤ x ∧ x ≤ y + e
  | [], [], _, x, hx => by simp at hx
  | z :: p, y :: c, h, x, hx => by
    rcases List.mem_cons.1 hx with rfl | hx
    · exact ⟨y, by simp, h.1⟩
    · obtain ⟨w, hw, hh⟩ := near_all p c h.2 x hx
      exact ⟨w, by simp [hw], hh⟩
theorem near_two {e L H : Int} (hh : H + 2 * e < L) : ∀ (p q c : List Int), near e p c → near e q c → c.length ≤ lt_ L p + gt_ H q
  | [], [], [], _, _ => Nat.zero_le _
  | [], _ :: _, [], _, h => h.elim
  | [], _ :: _, _ :: _, h, _ => h.elim
  | _ :: _, [], [], h, _ => h.elim
  | _ :: _, [], _ :: _, _, h => h.elim
  | x :: p, z :: q, y :: c, h1, h2 => by
    have := near_two hh p q c h1.2 h2.2
    have a1 := h1.1
    have a2 := h2.1
    rw [lt_cons, gt_cons, List.length_cons]
    by_cases h : x < L
    · rw [if_pos h]; omega
    · rw [if_pos (show H < z by omega)]; omega
/-- What is read of numbers, with errors, and one reading more at most: the middle of it. -/
def Row (c : List Int) (e v : Int) : Prop := ∃ p X : List Int, near e p c ∧ X.length ≤ 1 ∧ v = (lo (p ++ X) + hi (p ++ X)) / 2
theorem row_half {c : List Int} (hc : 4 ≤ c.length) {e : Int} {u v a z : Int} (hb : ∀ y ∈ c, a ≤ y ∧ y ≤ z) (hu : Row c e u) (hv : Row c e v) : 2 * (u - v) ≤ z - a + 4 * e + 2 := by
  obtain ⟨p, X, hp, hX, rfl⟩ := hu
  obtain ⟨q, Y, hq, hY, rfl⟩ := hv
  have lp := near_len p c hp
  have lq := near_len q c hq
  have l1 : 2 ≤ (p ++ X).length := by rw [List.length_append]; omega
  have l2 : 2 ≤ (q ++ Y).length := by rw [List.length_append]; omega
  have h1 : hi (p ++ X) ≤ z + e := by
    rw [hi_iff l1, gt_app, gt_zero (z + e) p (fun x hx => by obtain ⟨y, hy, h⟩ := near_all p c hp x hx; have := hb y hy; omega)]
    have : gt_ (z + e) X ≤ X.length := List.countP_le_length
    omega
  have h2 : a - e ≤ lo (q ++ Y) := by
    rw [lo_iff l2, lt_app, lt_zero (a - e) q (fun x hx => by obtain ⟨y, hy, h⟩ := near_all q c hq x hx; have := hb y hy; omega)]
    have := lt_le (a - e) Y
    omega
  have h3 : lo (p ++ X) - 2 * e ≤ hi (q ++ Y) := by
    refine Int.not_lt.1 fun hc2 => ?_
    have g1 := (lo_iff l1 (lo (p ++ X))).1 (Int.le_refl _)
    have g2 := (hi_iff l2 (hi (q ++ Y))).1 (Int.le_refl _)
    have g3 := near_two (e := e) (L := lo (p ++ X)) (H := hi (q ++ Y)) (by omega) p q c hp hq
    rw [lt_app] at g1
    rw [gt_app] at g2
    omega
  omega
theorem mx_ge (a b : Int) : a ≤ mx a b ∧ b ≤ mx a b ∧ (mx a b = a ∨ mx a b = b) := by
  unfold mx
  split <;> omega
theorem mn_le (a b : Int) : mn a b ≤ a ∧ mn a b ≤ b ∧ (mn a b = a ∨ mn a b = b) := by
  unfold mn
  split <;> omega
theorem mid_row {c t : List Int} {e x : Int} (hn : near e t c) (h4 : 4 ≤ c.length) (h30 : c.length ≤ 30) (he : 0 ≤ e) (he2 : e < 50) (hc : ∀ y ∈ c, -500 ≤ y ∧ y ≤ 500) (hx : -100000 ≤ x ∧ x ≤ 100000) :
    ∃ v, mid_Mid.f (t ++ [x]) = some (v, true) ∧ -200000 ≤ v ∧ v ≤ 200000 ∧ Row c e v := by
  have hl := near_len t c hn
  have hb : ∀ y ∈ t ++ [x], -200000 ≤ y ∧ y ≤ 200000 := by
    intro y hy
    rcases List.mem_append.1 hy with hy | hy
    · obtain ⟨z, hz, h1⟩ := near_all t c hn y hy
      have := hc z hz
      omega
    · obtain rfl := List.mem_singleton.1 hy
      omega
  have hL : (t ++ [x]).length = c.length + 1 := by rw [List.length_append, List.length_singleton, hl]
  have g1 := lo_ge (l := t ++ [x]) (by omega) (fun y hy => (hb y hy).1)
  have g2 := hi_le (l := t ++ [x]) (by omega) (fun y hy => (hb y hy).2)
  have g3 := lo_le_hi (l := t ++ [x]) (by omega)
  exact ⟨_, Mid_some (by omega) (by omega) 200000 (by decide) hb, by omega, by omega, t, [x], hn, by simp, rfl⟩
theorem two_end (es fs c t u : List Int) (x y e a z : Int) (ht : near e t c) (hu : near e u c) (h4 : 4 ≤ c.length) (h30 : c.length ≤ 30) (he : 0 ≤ e) (he2 : e < 50) (hc : ∀ v ∈ c, -500 ≤ v ∧ v ≤ 500) (hb : ∀ v ∈ c, a ≤ v ∧ v ≤ z) (ha : -500 ≤ a) (hz : z ≤ 500) (haz : a ≤ z) (k : Nat) :
    plaitinglaw11_MidTwo.l0 (k + 1) es fs x y e c a z t u (c.length : Int) = some true := by
  obtain ⟨p, hp, p0, p1⟩ := within_of x 200001 (by decide) (by decide)
  obtain ⟨q, hq, q0, q1⟩ := within_of y 200001 (by decide) (by decide)
  obtain ⟨m, hm, m0, m1, rm⟩ := mid_row ht h4 h30 he he2 hc (x := p - 100000) (by omega)
  obtain ⟨n, hn, n0, n1, rn⟩ := mid_row hu h4 h30 he he2 hc (x := q - 100000) (by omega)
  have r1 := row_half h4 hb rm rn
  have r2 := row_half h4 hb rn rm
  have lt1 := near_len t c ht
  have lu1 := near_len u c hu
  simp only [plaitinglaw11_MidTwo.l0]
  rw [if_neg (by omega), hp, Option.bind_some, w64 (p - 100000) (by omega) (by omega), Option.bind_some, if_pos (by rw [List.length_singleton]; omega), hq, Option.bind_some, w64 (q - 100000) (by omega) (by omega), Option.bind_some, if_pos (by rw [List.length_singleton]; omega), hm, Option.bind_some, hn, Option.bind_some, if_pos rfl, if_pos rfl]
  rw [w64 (m - n) (by omega) (by omega), w64 (n - m) (by omega) (by omega)]
  have hmx := mx_ge (m - n) (n - m)
  generalize mx (m - n) (n - m) = g at hmx ⊢
  rw [w64 (2 * g) (by omega) (by omega), w64 (z - a) (by omega) (by omega), w64 (4 * e) (by omega) (by omega), w64 (z - a + 4 * e) (by omega) (by omega), w64 (z - a + 4 * e + 2) (by omega) (by omega)]
  exact congrArg some (decide_eq_true (by omega))
theorem two_l0 (es fs c : List Int) (x y e : Int) (h4 : 4 ≤ c.length) (h30 : c.length ≤ 30) (he : 0 ≤ e) (he2 : e < 50) (hc : ∀ v ∈ c, -500 ≤ v ∧ v ≤ 500) : ∀ (d k i : Nat) (t u : List Int) (a z : Int), i + d = c.length → 2 * d < k → near e t (c.take i) → near e u (c.take i) → (∀ v ∈ c.take i, a ≤ v ∧ v ≤ z) → -500 ≤ a → z ≤ 500 → a ≤ z →
    plaitinglaw11_MidTwo.l0 k es fs x y e c a z t u (i : Int) = some true := by
  intro d
  induction d with
  | zero =>
    intro k i t u a z hi hk ht hu hb ha hz haz
    obtain ⟨k, rfl⟩ : ∃ q, k = q + 1 := ⟨k - 1, by omega⟩
    obtain rfl : i = c.length := by omega
    rw [List.take_length] at ht hu hb
    exact two_end es fs c t u x y e a z ht hu h4 h30 he he2 hc hb ha hz haz k
  | succ d ih =>
    intro k i t u a z hi hk ht hu hb ha hz haz
    obtain ⟨k, rfl⟩ : ∃ q, k = q + 2 := ⟨k - 2, by omega⟩
    have hil : i < c.length := by omega
    have hci := hc c[i] (by simp)
    have g1 := mn_le a c[i]
    have g2 := mx_ge z c[i]
    have lt1 := near_len t _ ht
    have lu1 := near_len u _ hu
    rw [List.length_take] at lt1 lu1
    have hgo : ∀ p q : Int, (-e ≤ p ∧ p ≤ e) → (-e ≤ q ∧ q ≤ e) → plaitinglaw11_MidTwo.l0 k es fs x y e c (mn a c[i]) (mx z c[i]) (t ++ [c[i] + p]) (u ++ [c[i] + q]) (wrap64 ((i : Int) + 1)) = some true := by
      intro p q hp hq
      rw [w64_succ' i (by omega)]
      refine ih k (i + 1) _ _ _ _ (by omega) (by omega) ?_ ?_ ?_ (by omega) (by omega) (by omega)
      · rw [← List.take_append_getElem hil]
        exact near_snoc (by omega) _ _ ht
      · rw [← List.take_append_getElem hil]
        exact near_snoc (by omega) _ _ hu
      · intro v hv
        rw [← List.take_append_getElem hil] at hv
        rcases List.mem_append.1 hv with hv | hv
        · have := hb v hv
          omega
        · obtain rfl := List.mem_singleton.1 hv
          omega
    have hj : ∀ p : Int, (-e ≤ p ∧ p ≤ e) → plaitinglaw11_MidTwo.j1 (k + 1) es fs x y e c (mn a c[i]) (mx z c[i]) t u i p 0 = some true := by
      intro p hp
      simp only [plaitinglaw11_MidTwo.j1]
      by_cases h1 : (i : Int) < (fs.length : Int)
      · obtain ⟨q, hq, q0, q1⟩ := within_of (rd fs i) (2 * e + 1) (by omega) (by omega)
        rw [if_pos h1, if_pos (by omega), w64 (2 * e) (by omega) (by omega), w64 (2 * e + 1) (by omega) (by omega), hq, Option.bind_some, if_pos (by omega), rd_at c i hil, w64 (c[i] + p) (by omega) (by omega), Option.bind_some, if_pos (by rw [List.length_singleton]; omega), w64 (q - e) (by omega) (by omega), w64 (c[i] + (q - e)) (by omega) (by omega), Option.bind_some, if_pos (by rw [List.length_singleton]; omega)]
        exact hgo p (q - e) hp (by omega)
      · rw [if_neg h1, if_pos (by omega), if_pos (by omega), rd_at c i hil, w64 (c[i] + p) (by omega) (by omega), Option.bind_some, if_pos (by rw [List.length_singleton]; omega), w64 (c[i] + 0) (by omega) (by omega), Option.bind_some, if_pos (by rw [List.length_singleton]; omega)]
        exact hgo p 0 hp (by omega)
    simp only [plaitinglaw11_MidTwo.l0]
    rw [if_pos (by omega), if_pos (by omega), rd_at c i hil]
    by_cases h1 : (i : Int) < (es.length : Int)
    · obtain ⟨p, hp, p0, p1⟩ := within_of (rd es i) (2 * e + 1) (by omega) (by omega)
      rw [if_pos h1, w64 (2 * e) (by omega) (by omega), w64 (2 * e + 1) (by omega) (by omega), hp, Option.bind_some, w64 (p - e) (by omega) (by omega)]
      exact hj (p - e) (by omega)
    · rw [if_neg h1]
      exact hj 0 (by omega)
theorem MidTwo : plaitinglaw11_MidTwo.Pure := by
  intro l0 l1 l2 a3 a4 a5 _ _ _ _ _ _ _ _ _ _ _ _
  refine ⟨100, ?_⟩
  unfold plaitinglaw11_MidTwo.f
  obtain ⟨e, he, e0, e1⟩ := within_of a5 50 (by decide) (by decide)
  obtain ⟨l, hl, hlen, hb⟩ := some_ok l0 500 (by decide) (by decide) 100 (by decide)
  rw [known11, Option.bind_some, if_pos rfl, hl, Option.bind_some]
  by_cases h4 : (l.length : Int) < 4
  · rw [if_pos h4]
  · have h0 := hb l[0] (by simp)
    have hr : rd l 0 = l[0] := rd_at l 0 (by omega)
    rw [if_neg h4, he, Option.bind_some, if_pos (by omega), hr]
    exact two_l0 l1 l2 l a3 a4 e (by omega) (by omega) e0 e1 hb l.length 100 0 [] [] _ _ (by omega) (by omega) (by simp [near]) (by simp [near]) (by simp) (by omega) (by omega) (by omega)
end Go.Proofs.Ytegbklmmkamjgaa.Pure
