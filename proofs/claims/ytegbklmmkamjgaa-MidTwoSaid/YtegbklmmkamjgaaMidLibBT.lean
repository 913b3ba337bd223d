/- Midpoints, by counts: no program in sight. -/
import Derived.Test.YtegbklmmkamjgaaPBTx2
import Derived.Test.YtegbklmmkamjgaaPBTx3
namespace Go.Proofs.Ytegbklmmkamjgaa.Pure
open Go.RowKit Go.Proofs.Ytegbklmmkamjgaa.PBT Go.Proofs.YtegbklmmkamjgaaW.PrintWords Go.Proofs.YtegbklmmkamjgaaW.PrintLast Go.Proofs.YtegbklmmkamjgaaW.PrintMore
theorem w64 (n : Int) (h0 : -9223372036854775808 ≤ n) (h1 : n < 9223372036854775808) : wrap64 n = n := by
  unfold wrap64
  omega
theorem tmod_emod (a n : Int) (hn : 0 < n) : (if Int.tmod a n < 0 then Int.tmod a n + n else Int.tmod a n) = a % n := by
  have h1 := Int.emod_nonneg a (show n ≠ 0 by omega)
  have h2 := Int.emod_lt_of_pos a hn
  have := @Int.tmod_eq_emod a n
  rw [this]
  by_cases h : 0 ≤ a ∨ n ∣ a
  · rw [if_pos h]
    split <;> omega
  · rw [if_neg h]
    have hd : ¬ a % n = 0 := fun e => h (.inr (Int.dvd_of_emod_eq_zero e))
    have hna : (n.natAbs : Int) = n := by omega
    split <;> omega
theorem tmod_range (a n : Int) (hn : 0 < n) : -n < Int.tmod a n ∧ Int.tmod a n < n := by
  have h1 := Int.emod_nonneg a (show n ≠ 0 by omega)
  have h2 := Int.emod_lt_of_pos a hn
  have := tmod_emod a n hn
  have h3 := @Int.tmod_eq_emod a n
  by_cases h : 0 ≤ a ∨ n ∣ a
  · rw [if_pos h] at h3; omega
  · rw [if_neg h] at h3
    have hd : ¬ a % n = 0 := fun e => h (.inr (Int.dvd_of_emod_eq_zero e))
    have hna : (n.natAbs : Int) = n := by omega
    omega
/-- A printed 'within': the remainder from nought on. -/
theorem within_eq (a n : Int) (hn : 0 < n) (hb : n ≤ 4611686018427387904) :
    (if n = 0 then (none) else (if (Int.tmod a n) < 0 then (some (wrap64 ((Int.tmod a n) + n))) else (some (Int.tmod a n)))) = some (a % n) := by
  have h1 := tmod_range a n hn
  have h2 := tmod_emod a n hn
  rw [if_neg (by omega), w64 _ (by omega) (by omega)]
  rw [← h2]
  split <;> rfl
/-- A remainder: a number, and its bounds (the remainder itself is not told: it holds up omega). -/
theorem within_of (a n : Int) (hn : 0 < n) (hb : n ≤ 4611686018427387904) : ∃ r, plaitinglaw11_within.f a n = some r ∧ 0 ≤ r ∧ r < n :=
  ⟨a % n, within_eq a n hn hb, Int.emod_nonneg a (by omega), Int.emod_lt_of_pos a hn⟩
theorem rd_at (ns : List Int) (i : Nat) (h : i < ns.length) : rd ns (i : Int) = ns[i] := by
  unfold rd
  simp [List.getD_eq_getElem?_getD, List.getElem?_eq_getElem h]
theorem w64_succ' (n : Nat) (h : n ≤ 4611686018427387904) : wrap64 ((n : Int) + 1) = ((n + 1 : Nat) : Int) := by
  rw [w64 _ (by omega) (by omega)]
  omega

/-! #### the second least and the second greatest, by counts -/
def srt (l : List Int) : List Int := l.mergeSort fun x y => decide (x ≤ y)
def lt_ (v : Int) (l : List Int) : Nat := l.countP fun x => decide (x < v)
def gt_ (v : Int) (l : List Int) : Nat := l.countP fun x => decide (v < x)
theorem srt_perm (l : List Int) : (srt l).Perm l := List.mergeSort_perm l _
theorem srt_len (l : List Int) : (srt l).length = l.length := (srt_perm l).length_eq
theorem srt_pair (l : List Int) : (srt l).Pairwise (· ≤ ·) := by
  have := List.pairwise_mergeSort (le := fun x y : Int => decide (x ≤ y)) (by intro a b c h1 h2; simp at *; omega) (by intro a b; simp; omega) l
  exact this.imp (by intro a b h; simpa using h)
def lo (l : List Int) : Int := (srt l)[1]?.getD 0
def hi (l : List Int) : Int := (srt l)[l.length - 2]?.getD 0
theorem lt_cons (v x : Int) (l : List Int) : lt_ v (x :: l) = lt_ v l + if x < v then 1 else 0 := by simp [lt_, List.countP_cons]
theorem gt_cons (v x : Int) (l : List Int) : gt_ v (x :: l) = gt_ v l + if v < x then 1 else 0 := by simp [gt_, List.countP_cons]
theorem lt_app (v : Int) (a b : List Int) : lt_ v (a ++ b) = lt_ v a + lt_ v b := by simp [lt_]
theorem gt_app (v : Int) (a b : List Int) : gt_ v (a ++ b) = gt_ v a + gt_ v b := by simp [gt_]
theorem lt_nil (v : Int) : lt_ v [] = 0 := rfl
theorem gt_nil (v : Int) : gt_ v [] = 0 := rfl
theorem lt_le (v : Int) (l : List Int) : lt_ v l ≤ l.length := List.countP_le_length
theorem lt_perm (v : Int) {a b : List Int} (h : a.Perm b) : lt_ v a = lt_ v b := h.countP_eq _
theorem gt_perm (v : Int) {a b : List Int} (h : a.Perm b) : gt_ v a = gt_ v b := h.countP_eq _
theorem lt_zero (v : Int) (l : List Int) (h : ∀ x ∈ l, v ≤ x) : lt_ v l = 0 := by
  unfold lt_
  rw [List.countP_eq_zero]
  intro x hx
  have := h x hx
  simp
  omega
theorem gt_zero (v : Int) (l : List Int) (h : ∀ x ∈ l, x ≤ v) : gt_ v l = 0 := by
  unfold gt_
  rw [List.countP_eq_zero]
  intro x hx
  have := h x hx
  simp
  omega
theorem lt_all (v : Int) (l : List Int) (h : ∀ x ∈ l, x < v) : lt_ v l = l.length := by
  unfold lt_
  rw [List.countP_eq_length]
  intro x hx
  simpa using h x hx
theorem gt_all (v : Int) (l : List Int) (h : ∀ x ∈ l, v < x) : gt_ v l = l.length := by
  unfold gt_
  rw [List.countP_eq_length]
  intro x hx
  simpa using h x hx
theorem sorted_lo : ∀ (s : List Int) (v : Int), s.Pairwise (· ≤ ·) → 2 ≤ s.length → (v ≤ s[1]?.getD 0 ↔ lt_ v s ≤ 1)
  | a :: b :: r, v, hp, _ => by
    rw [List.pairwise_cons, List.pairwise_cons] at hp
    obtain ⟨h1, h2, _⟩ := hp
    have hab := h1 b (by simp)
    rw [lt_cons, lt_cons]
    simp only [List.getElem?_cons_succ, List.getElem?_cons_zero, Option.getD_some]
    constructor
    · intro h
      rw [lt_zero v r (fun x hx => by have := h2 x hx; omega)]
      split <;> split <;> omega
    · intro h
      refine Int.not_lt.1 fun hb => ?_
      rw [if_pos hb, if_pos (by omega)] at h
      omega
theorem sorted_hi : ∀ (s : List Int) (v : Int), s.Pairwise (fun a b => b ≤ a) → 2 ≤ s.length → (s[1]?.getD 0 ≤ v ↔ gt_ v s ≤ 1)
  | a :: b :: r, v, hp, _ => by
    rw [List.pairwise_cons, List.pairwise_cons] at hp
    obtain ⟨h1, h2, _⟩ := hp
    have hab := h1 b (by simp)
    rw [gt_cons, gt_cons]
    simp only [List.getElem?_cons_succ, List.getElem?_cons_zero, Option.getD_some]
    constructor
    · intro h
      rw [gt_zero v r (fun x hx => by have := h2 x hx; omega)]
      split <;> split <;> omega
    · intro h
      refine Int.not_lt.1 fun hb => ?_
      rw [if_pos hb, if_pos (by omega)] at h
      omega
theorem lo_iff {l : List Int} (h : 2 ≤ l.length) (v : Int) : v ≤ lo l ↔ lt_ v l ≤ 1 := by
  rw [← lt_perm v (srt_perm l)]
  exact sorted_lo (srt l) v (srt_pair l) (by rw [srt_len]; exact h)
theorem hi_iff {l : List Int} (h : 2 ≤ l.length) (v : Int) : hi l ≤ v ↔ gt_ v l ≤ 1 := by
  have e : gt_ v (srt l).reverse = gt_ v l := (gt_perm v (List.reverse_perm _)).trans (gt_perm v (srt_perm l))
  have e2 : hi l = (srt l).reverse[1]?.getD 0 := by
    rw [List.getElem?_reverse (by rw [srt_len]; omega), srt_len]
    unfold hi
    rw [show l.length - 1 - 1 = l.length - 2 by omega]
  rw [← e, e2]
  exact sorted_hi (srt l).reverse v (List.pairwise_reverse.2 (srt_pair l)) (by rw [List.length_reverse, srt_len]; exact h)
theorem cover (p q : Int) (h : q < p) : ∀ l : List Int, l.length ≤ lt_ p l + gt_ q l
  | [] => by simp
  | x :: l => by
    have := cover p q h l
    rw [lt_cons, gt_cons, List.length_cons]
    split <;> split <;> omega
theorem lo_le_hi {l : List Int} (h : 3 ≤ l.length) : lo l ≤ hi l := by
  refine Int.not_lt.1 fun hc => ?_
  have h1 := (lo_iff (l := l) (by omega) (lo l)).1 (Int.le_refl _)
  have h2 := (hi_iff (l := l) (by omega) (hi l)).1 (Int.le_refl _)
  have := cover _ _ hc l
  omega
theorem lo_ge {l : List Int} (h : 2 ≤ l.length) {b : Int} (hb : ∀ x ∈ l, b ≤ x) : b ≤ lo l := (lo_iff h b).2 (by rw [lt_zero b l hb]; omega)
theorem hi_le {l : List Int} (h : 2 ≤ l.length) {b : Int} (hb : ∀ x ∈ l, x ≤ b) : hi l ≤ b := (hi_iff h b).2 (by rw [gt_zero b l hb]; omega)
theorem lo_unique {l : List Int} (h : 2 ≤ l.length) {b : Int} (hb : ∀ v, v ≤ b ↔ lt_ v l ≤ 1) : b = lo l := by
  have h1 := (lo_iff h b).2 ((hb b).1 (Int.le_refl _))
  have h2 := (hb (lo l)).2 ((lo_iff h (lo l)).1 (Int.le_refl _))
  omega
theorem hi_unique {l : List Int} (h : 2 ≤ l.length) {b : Int} (hb : ∀ v, b ≤ v ↔ gt_ v l ≤ 1) : b = hi l := by
  have h1 := (hi_iff h b).2 ((hb b).1 (Int.le_refl _))
  have h2 := (hb (hi l)).2 ((hi_iff h (hi l)).1 (Int.le_refl _))
  omega
theorem lo_perm {a b : List Int} (h : 2 ≤ a.length) (hp : a.Perm b) : lo a = lo b :=
  lo_unique (by rw [← hp.length_eq]; exact h) (fun v => by rw [← lt_perm v hp]; exact lo_iff h v)
theorem hi_perm {a b : List Int} (h : 2 ≤ a.length) (hp : a.Perm b) : hi a = hi b :=
  hi_unique (by rw [← hp.length_eq]; exact h) (fun v => by rw [← gt_perm v hp]; exact hi_iff h v)
theorem Mid_few {l : List Int} (h : l.length < 4) : mid_Mid.f l = some (0, false) := by
  unfold mid_Mid.f
  rw [if_pos h]
theorem Mid_some {l : List Int} (h : 4 ≤ l.length) (h1 : l.length ≤ 1000000) (B : Int) (hB : B ≤ 1000000000000) (hb : ∀ x ∈ l, -B ≤ x ∧ x ≤ B) : mid_Mid.f l = some ((lo l + hi l) / 2, true) := by
  have h2 := lo_ge (l := l) (by omega) (fun x hx => (hb x hx).1)
  have h3 := hi_le (l := l) (by omega) (fun x hx => (hb x hx).2)
  have h4 := lo_le_hi (l := l) (by omega)
  unfold mid_Mid.f
  rw [if_neg (by omega), if_neg (by omega)]
  change some (wrap64 (lo l + hi l) / 2, true) = _
  rw [w64 _ (by omega) (by omega)]
theorem Mid_perm {a b : List Int} (hp : a.Perm b) : mid_Mid.f a = mid_Mid.f b := by
  unfold mid_Mid.f
  rw [hp.length_eq]
  split
  · rfl
  · rename_i h
    have h1 := lo_perm (a := a) (by rw [hp.length_eq]; omega) hp
    have h2 := hi_perm (a := a) (by rw [hp.length_eq]; omega) hp
    unfold lo srt at h1
    unfold hi srt at h2
    rw [hp.length_eq] at h2
    rw [h1, h2]
theorem lo_of {l : List Int} {b : Int} (h : 2 ≤ l.length) (h1 : lt_ b l ≤ 1) (h2 : 2 ≤ lt_ (b + 1) l) : lo l = b := by
  have a1 := (lo_iff h b).2 h1
  have a2 := lo_iff h (b + 1)
  refine Int.le_antisymm ?_ a1
  refine Int.not_lt.1 fun hc => ?_
  have := a2.1 (by omega)
  omega
theorem hi_of {l : List Int} {b : Int} (h : 2 ≤ l.length) (h1 : gt_ b l ≤ 1) (h2 : 2 ≤ gt_ (b - 1) l) : hi l = b := by
  have a1 := (hi_iff h b).2 h1
  have a2 := hi_iff h (b - 1)
  refine Int.le_antisymm a1 ?_
  refine Int.not_lt.1 fun hc => ?_
  have := a2.1 (by omega)
  omega
theorem known11 : plaitinglaw11_known.f = some true := by
  unfold plaitinglaw11_known.f
  rw [Mid_few (l := [1, 2, 3]) (by decide)]
  rw [Mid_some (l := [0, 1, 2, 100]) (by decide) (by decide) 100 (by decide) (by decide), lo_of (b := 1) (by decide) (by decide) (by decide), hi_of (b := 2) (by decide) (by decide) (by decide)]
  rfl
/-! #### some -/
theorem some_l0 (ns : List Int) (s : Int) (h0 : 0 ≤ s) (hs : s ≤ 2000000) : ∀ (d k i : Nat) (acc : List Int), i + d = min ns.length 30 → d < k → acc.length = i → (∀ x ∈ acc, -s ≤ x ∧ x ≤ s) →
    ∃ l, plaitinglaw11_some.l0 k ns s acc i = some l ∧ l.length = min ns.length 30 ∧ ∀ x ∈ l, -s ≤ x ∧ x ≤ s := by
  intro d
  induction d with
  | zero =>
    intro k i acc hi hk ha hx
    obtain ⟨k, rfl⟩ : ∃ q, k = q + 1 := ⟨k - 1, by omega⟩
    refine ⟨acc, ?_, by omega, hx⟩
    simp only [plaitinglaw11_some.l0]
    by_cases h1 : (i : Int) < (ns.length : Int)
    · rw [if_pos h1, if_neg (by omega)]
    · rw [if_neg h1]
  | succ d ih =>
    intro k i acc hi hk ha hx
    obtain ⟨k, rfl⟩ : ∃ q, k = q + 1 := ⟨k - 1, by omega⟩
    have hil : i < ns.length := by omega
    obtain ⟨r, hw, r0, r1⟩ := within_of ns[i] (2 * s + 1) (by omega) (by omega)
    obtain ⟨l, hl, hlen, hb⟩ := ih k (i + 1) (acc ++ [r - s]) (by omega) (by omega) (by simp; omega) (by
      intro x hxm
      rcases List.mem_append.1 hxm with h | h
      · exact hx x h
      · obtain rfl := List.mem_singleton.1 h
        omega)
    refine ⟨l, ?_, hlen, hb⟩
    simp only [plaitinglaw11_some.l0]
    rw [if_pos (by omega), if_pos (by omega), if_pos (by omega), rd_at ns i hil, w64 (2 * s) (by omega) (by omega), w64 (2 * s + 1) (by omega) (by omega), hw, Option.bind_some, if_pos (by omega), w64 (r - s) (by omega) (by omega), w64_succ' i (by omega)]
    exact hl
theorem some_ok (ns : List Int) (s : Int) (h0 : 0 ≤ s) (hs : s ≤ 2000000) (k : Nat) (hk : 31 < k) : ∃ l, plaitinglaw11_some.f k ns s = some l ∧ l.length = min ns.length 30 ∧ ∀ x ∈ l, -s ≤ x ∧ x ≤ s :=
  some_l0 ns s h0 hs (min ns.length 30) k 0 [] (by omega) (by omega) rfl (by simp)
end Go.Proofs.Ytegbklmmkamjgaa.Pure
