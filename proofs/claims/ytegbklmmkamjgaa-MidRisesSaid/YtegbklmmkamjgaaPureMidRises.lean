/- The law MidRises, of what the walk has printed: over numbers and lists alone. -/
import Derived.Test.YtegbklmmkamjgaaPBx9
import Derived.Test.YtegbklmmkamjgaaMidLib
namespace Go.Proofs.Ytegbklmmkamjgaa.Pure
open Go.RowKit Go.Proofs.Ytegbklmmkamjgaa.PB Go.Proofs.YtegbklmmkamjgaaW.PrintWords Go.Proofs.YtegbklmmkamjgaaW.PrintLast Go.Proofs.YtegbklmmkamjgaaW.PrintMore
/-- What stands in t and u when i numbers have been read. -/
structure Risen (l : List Int) (c i : Nat) (t u : List Int) : Prop where
  lt_t : ∀ v, lt_ v t ≤ lt_ v (l.take i)
  gt_t : ∀ v, gt_ v (l.take i) ≤ gt_ v t
  lt_u : ∀ v, lt_ v u = lt_ (v - 1) (l.take i)
  gt_u : ∀ v, gt_ v u = gt_ (v - 1) (l.take i)
  len_t : t.length = i
  len_u : u.length = i
  bt : ∀ x ∈ t, -10000 ≤ x ∧ x ≤ 10000
  bu : ∀ x ∈ u, -10000 ≤ x ∧ x ≤ 10000
theorem Risen.step {l : List Int} {c i : Nat} {t u : List Int} (h : Risen l c i t u) (hil : i < l.length) (hb : -1000 ≤ l[i] ∧ l[i] ≤ 1000) (x : Int) (h0 : l[i] ≤ x) (h1 : x ≤ l[i] + 5000) : Risen l c (i + 1) (t ++ [x]) (u ++ [l[i] + 1]) := by
  have e : l.take (i + 1) = l.take i ++ [l[i]] := List.take_succ_eq_append_getElem hil
  refine ⟨fun v => ?_, fun v => ?_, fun v => ?_, fun v => ?_, by simp [h.len_t], by simp [h.len_u], ?_, ?_⟩
  · have := h.lt_t v
    rw [e, lt_app, lt_app, lt_cons, lt_cons, lt_nil]
    split <;> split <;> omega
  · have := h.gt_t v
    rw [e, gt_app, gt_app, gt_cons, gt_cons, gt_nil]
    split <;> split <;> omega
  · have := h.lt_u v
    rw [e, lt_app, lt_app, lt_cons, lt_cons, lt_nil, lt_nil, this]
    split <;> split <;> omega
  · have := h.gt_u v
    rw [e, gt_app, gt_app, gt_cons, gt_cons, gt_nil, gt_nil, this]
    split <;> split <;> omega
  · intro y hy
    rcases List.mem_append.1 hy with hy | hy
    · exact h.bt y hy
    · obtain rfl := List.mem_singleton.1 hy
      omega
  · intro y hy
    rcases List.mem_append.1 hy with hy | hy
    · exact h.bu y hy
    · obtain rfl := List.mem_singleton.1 hy
      omega
theorem rises_end (l t u : List Int) (c : Nat) (h4 : 4 ≤ l.length) (h : Risen l c l.length t u) :
    lo l + hi l ≤ lo t + hi t ∧ lo u = lo l + 1 ∧ hi u = hi l + 1 := by
  obtain ⟨a1, a2, a3, a4, e1, e2, _, _⟩ := h
  rw [List.take_length] at *
  have b1 := (lo_iff (l := l) (by omega) (lo l)).1 (Int.le_refl _)
  have b2 := (hi_iff (l := t) (by omega) (hi t)).1 (Int.le_refl _)
  have c1 := (lo_iff (l := t) (by omega) (lo l)).2 (Nat.le_trans (a1 _) b1)
  have c2 := (hi_iff (l := l) (by omega) (hi t)).2 (Nat.le_trans (a2 _) b2)
  refine ⟨by omega, ?_, ?_⟩
  · refine (lo_unique (by omega) (fun v => ?_)).symm
    rw [a3, ← lo_iff (l := l) (by omega)]
    omega
  · refine (hi_unique (by omega) (fun v => ?_)).symm
    rw [a4, ← hi_iff (l := l) (by omega)]
    omega
theorem rises_l0 (l : List Int) (c : Nat) (by_ : Int) (h4 : 4 ≤ l.length) (h30 : l.length ≤ 30) (hb : ∀ x ∈ l, -1000 ≤ x ∧ x ≤ 1000) : ∀ (d k i : Nat) (t u : List Int), i + d = l.length → d < k → Risen l c i t u →
    plaitinglaw11_MidRises.l0 k by_ l t u c i = some true := by
  intro d
  induction d with
  | zero =>
    intro k i t u hi hk hr
    obtain ⟨k, rfl⟩ : ∃ q, k = q + 1 := ⟨k - 1, by omega⟩
    obtain rfl : i = l.length := by omega
    obtain ⟨g1, g2, g3⟩ := rises_end l t u c h4 hr
    have m1 := Mid_some h4 (by omega) 1000 (by omega) hb
    have m2 := Mid_some (l := t) (by rw [hr.len_t]; exact h4) (by rw [hr.len_t]; omega) 10000 (by omega) hr.bt
    have m3 := Mid_some (l := u) (by rw [hr.len_u]; exact h4) (by rw [hr.len_u]; omega) 10000 (by omega) hr.bu
    have n1 := lo_ge (l := l) (by omega) (fun x hx => (hb x hx).1)
    have n2 := hi_le (l := l) (by omega) (fun x hx => (hb x hx).2)
    have n3 := lo_le_hi (l := l) (by omega)
    simp only [plaitinglaw11_MidRises.l0]
    rw [if_neg (by omega), m1, m2, m3]
    simp only [Option.bind_some]
    rw [if_pos trivial, if_pos trivial, if_pos trivial, if_pos (by omega), g2, g3, w64 _ (by omega) (by omega)]
    simp
    omega
  | succ d ih =>
    intro k i t u hi hk hr
    obtain ⟨k, rfl⟩ : ∃ q, k = q + 1 := ⟨k - 1, by omega⟩
    have hil : i < l.length := by omega
    have hbi := hb l[i] (List.getElem_mem hil)
    have lt := hr.len_t
    have lu := hr.len_u
    have e1 : wrap64 (l[i] + 1) = l[i] + 1 := w64 _ (by omega) (by omega)
    simp only [plaitinglaw11_MidRises.l0]
    rw [if_pos (by omega), if_pos (by omega)]
    by_cases hc : (i : Int) = (c : Int)
    · obtain ⟨r, hw, r0, r1⟩ := within_of by_ 5000 (by decide) (by decide)
      have hgo := ih k (i + 1) (t ++ [l[i] + r]) (u ++ [l[i] + 1]) (by omega) (by omega) (hr.step hil hbi (l[i] + r) (by omega) (by omega))
      rw [if_pos hc, hw]
      simp only [Option.bind_some, List.length_singleton]
      rw [if_pos (by omega), if_pos (by omega), rd_at l i hil, e1, w64 (l[i] + r) (by omega) (by omega), w64_succ' i (by omega)]
      exact hgo
    · have hgo := ih k (i + 1) (t ++ [l[i]]) (u ++ [l[i] + 1]) (by omega) (by omega) (hr.step hil hbi l[i] (by omega) (by omega))
      rw [if_neg hc]
      simp only [Option.bind_some, List.length_singleton]
      rw [if_pos (by omega), if_pos (by omega), rd_at l i hil, e1, w64_succ' i (by omega)]
      exact hgo
theorem MidRises : plaitinglaw11_MidRises.Pure := by
  intro l0 a1 a2 _ _ _ _ _
  refine ⟨100, ?_⟩
  unfold plaitinglaw11_MidRises.f
  obtain ⟨l, hl, hlen, hb⟩ := some_ok l0 1000 (by decide) (by decide) 100 (by decide)
  rw [known11, Option.bind_some, if_pos rfl, hl, Option.bind_some]
  by_cases h4 : (l.length : Int) < 4
  · rw [if_pos h4]
  · rw [if_neg h4]
    obtain ⟨r, hw, r0, r1⟩ := within_of a1 (l.length : Int) (by omega) (by omega)
    obtain ⟨c, rfl⟩ : ∃ n : Nat, r = n := ⟨r.toNat, (Int.toNat_of_nonneg r0).symm⟩
    rw [hw, Option.bind_some]
    exact rises_l0 l c a2 (by omega) (by omega) hb l.length 100 0 [] [] (by omega) (by omega) ⟨fun v => by simp [lt_], fun v => by simp [gt_], fun v => by simp [lt_], fun v => by simp [gt_], rfl, rfl, by simp, by simp⟩
end Go.Proofs.Ytegbklmmkamjgaa.Pure
