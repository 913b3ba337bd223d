/- Clocks, and midpoints by counts: no program in sight. -/
import Derived.Test.YtegbklmmkamjgaaPCx2
import Derived.Test.YtegbklmmkamjgaaPCx3
import Derived.Test.YtegbklmmkamjgaaPCx4
import Derived.Test.YtegbklmmkamjgaaPCx5
import Derived.Test.YtegbklmmkamjgaaPCx7
namespace Go.Proofs.Ytegbklmmkamjgaa.Pure
open Go.RowKit Go.Proofs.Ytegbklmmkamjgaa.PC Go.Proofs.YtegbklmmkamjgaaW.PrintWords Go.Proofs.YtegbklmmkamjgaaW.PrintLast Go.Proofs.YtegbklmmkamjgaaW.PrintMore
theorem w64 (n : Int) (h0 : -9223372036854775808 ≤ n) (h1 : n < 9223372036854775808) : wrap64 n = n := by
  unfold wrap64
  omega
theorem tmod_emod (a n : Int) (hn : 0 < n) : (if Int.tmod a n < 0 then Int.tmod a n + n else Int.tmod a n) = a % n := by
  have h1 := Int.emod_nonneg a (show n ≠ 0 by omega)
  have h2 := Int.emod_lt_of_pos a hn
  have := @Int.tmod_eq_emod a n
  rw [this]
  by_cases h : 0 ≤ a ∨ n ∣ a
  · rw [if_pos h]
    split <;> omega
  · rw [if_neg h]
    have hd : ¬ a % n = 0 := fun e => h (.inr (Int.dvd_of_emod_eq_zero e))
    have hna : (n.natAbs : Int) = n := by omega
    split <;> omega
theorem tmod_range (a n : Int) (hn : 0 < n) : -n < Int.tmod a n ∧ Int.tmod a n < n := by
  have h1 := Int.emod_nonneg a (show n ≠ 0 by omega)
  have h2 := Int.emod_lt_of_pos a hn
  have := tmod_emod a n hn
  have h3 := @Int.tmod_eq_emod a n
  by_cases h : 0 ≤ a ∨ n ∣ a
  · rw [if_pos h] at h3; omega
  · rw [if_neg h] at h3
    have hd : ¬ a % n = 0 := fun e => h (.inr (Int.dvd_of_emod_eq_zero e))
    have hna : (n.natAbs : Int) = n := by omega
    omega
/-- A printed 'within': the remainder from nought on. -/
theorem within_eq (a n : Int) (hn : 0 < n) (hb : n ≤ 4611686018427387904) :
    (if n = 0 then (none) else (if (Int.tmod a n) < 0 then (some (wrap64 ((Int.tmod a n) + n))) else (some (Int.tmod a n)))) = some (a % n) := by
  have h1 := tmod_range a n hn
  have h2 := tmod_emod a n hn
  rw [if_neg (by omega), w64 _ (by omega) (by omega)]
  rw [← h2]
  split <;> rfl
/-- A remainder: a number, and its bounds (the remainder itself is not told: it holds up omega). -/
theorem within_of (a n : Int) (hn : 0 < n) (hb : n ≤ 4611686018427387904) : ∃ r, plaitinglaw12_within.f a n = some r ∧ 0 ≤ r ∧ r < n :=
  ⟨a % n, within_eq a n hn hb, Int.emod_nonneg a (by omega), Int.emod_lt_of_pos a hn⟩
theorem rd_at (ns : List Int) (i : Nat) (h : i < ns.length) : rd ns (i : Int) = ns[i] := by
  unfold rd
  simp [List.getD_eq_getElem?_getD, List.getElem?_eq_getElem h]
theorem w64_succ' (n : Nat) (h : n ≤ 4611686018427387904) : wrap64 ((n : Int) + 1) = ((n + 1 : Nat) : Int) := by
  rw [w64 _ (by omega) (by omega)]
  omega

/-! #### the second least and the second greatest, by counts -/
def srt (l : List Int) : List Int := l.mergeSort fun x y => decide (x ≤ y)
def lt_ (v : Int) (l : List Int) : Nat := l.countP fun x => decide (x < v)
def gt_ (v : Int) (l : List Int) : Nat := l.countP fun x => decide (v < x)
theorem srt_perm (l : List Int) : (srt l).Perm l := List.mergeSort_perm l _
theorem srt_len (l : List Int) : (srt l).length = l.length := (srt_perm l).length_eq
theorem srt_pair (l : List Int) : (srt l).Pairwise (· ≤ ·) := by
  have := List.pairwise_mergeSort (le := fun x y : Int => decide (x ≤ y)) (by intro a b c h1 h2; simp at *; omega) (by intro a b; simp; omega) l
  exact this.imp (by intro a b h; simpa using h)
def lo (l : List Int) : Int := (srt l)[1]?.getD 0
def hi (l : List Int) : Int := (srt l)[l.length - 2]?.getD 0
theorem lt_cons (v x : Int) (l : List Int) : lt_ v (x :: l) = lt_ v l + if x < v then 1 else 0 := by simp [lt_, List.countP_cons]
theorem gt_cons (v x : Int) (l : List Int) : gt_ v (x :: l) = gt_ v l + if v < x then 1 else 0 := by simp [gt_, List.countP_cons]
theorem lt_app (v : Int) (a b : List Int) : lt_ v (a ++ b) = lt_ v a + lt_ v b := by simp [lt_]
theorem gt_app (v : Int) (a b : List Int) : gt_ v (a ++ b) = gt_ v a + gt_ v b := by simp [gt_]
theorem lt_nil (v : Int) : lt_ v [] = 0 := rfl
theorem gt_nil (v : Int) : gt_ v [] = 0 := rfl
theorem lt_le (v : Int) (l : List Int) : lt_ v l ≤ l.length := List.countP_le_length
theorem lt_perm (v : Int) {a b : List Int} (h : a.Perm b) : lt_ v a = lt_ v b := h.countP_eq _
theorem gt_perm (v : Int) {a b : List Int} (h : a.Perm b) : gt_ v a = gt_ v b := h.countP_eq _
theorem lt_zero (v : Int) (l : List Int) (h : ∀ x ∈ l, v ≤ x) : lt_ v l = 0 := by
  unfold lt_
  rw [List.countP_eq_zero]
  intro x hx
  have := h x hx
  simp
  omega
theorem gt_zero (v : Int) (l : List Int) (h : ∀ x ∈ l, x ≤ v) : gt_ v l = 0 := by
  unfold gt_
  rw [List.countP_eq_zero]
  intro x hx
  have := h x hx
  simp
  omega
theorem lt_all (v : Int) (l : List Int) (h : ∀ x ∈ l, x < v) : lt_ v l = l.length := by
  unfold lt_
  rw [List.countP_eq_length]
  intro x hx
  simpa using h x hx
theorem gt_all (v : Int) (l : List Int) (h : ∀ x ∈ l, v < x) : gt_ v l = l.length := by
  unfold gt_
  rw [List.countP_eq_length]
  intro x hx
  simpa using h x hx
theorem sorted_lo : ∀ (s : List Int) (v : Int), s.Pairwise (· ≤ ·) → 2 ≤ s.length → (v ≤ s[1]?.getD 0 ↔ lt_ v s ≤ 1)
  | a :: b :: r, v, hp, _ => by
    rw [List.pairwise_cons, List.pairwise_cons] at hp
    obtain ⟨h1, h2, _⟩ := hp
    have hab := h1 b (by simp)
    rw [lt_cons, lt_cons]
    simp only [List.getElem?_cons_succ, List.getElem?_cons_zero, Option.getD_some]
    constructor
    · intro h
      rw [lt_zero v r (fun x hx => by have := h2 x hx; omega)]
      split <;> split <;> omega
    · intro h
      refine Int.not_lt.1 fun hb => ?_
      rw [if_pos hb, if_pos (by omega)] at h
      omega
theorem sorted_hi : ∀ (s : List Int) (v : Int), s.Pairwise (fun a b => b ≤ a) → 2 ≤ s.length → (s[1]?.getD 0 ≤ v ↔ gt_ v s ≤ 1)
  | a :: b :: r, v, hp, _ => by
    rw [List.pairwise_cons, List.pairwise_cons] at hp
    obtain ⟨h1, h2, _⟩ := hp
    have hab := h1 b (by simp)
    rw [gt_cons, gt_cons]
    simp only [List.getElem?_cons_succ, List.getElem?_cons_zero, Option.getD_some]
    constructor
    · intro h
      rw [gt_zero v r (fun x hx => by have := h2 x hx; omega)]
      split <;> split <;> omega
    · intro h
      refine Int.not_lt.1 fun hb => ?_
      rw [if_pos hb, if_pos (by omega)] at h
      omega
theorem lo_iff {l : List Int} (h : 2 ≤ l.length) (v : Int) : v ≤ lo l ↔ lt_ v l ≤ 1 := by
  rw [← lt_perm v (srt_perm l)]
  exact sorted_lo (srt l) v (srt_pair l) (by rw [srt_len]; exact h)
theorem hi_iff {l : List Int} (h : 2 ≤ l.length) (v : Int) : hi l ≤ v ↔ gt_ v l ≤ 1 := by
  have e : gt_ v (srt l).reverse = gt_ v l := (gt_perm v (List.reverse_perm _)).trans (gt_perm v (srt_perm l))
  have e2 : hi l = (srt l).reverse[1]?.getD 0 := by
    rw [List.getElem?_reverse (by rw [srt_len]; omega), srt_len]
    unfold hi
    rw [show l.length - 1 - 1 = l.length - 2 by omega]
  rw [← e, e2]
  exact sorted_hi (srt l).reverse v (List.pairwise_reverse.2 (srt_pair l)) (by rw [List.length_reverse, srt_len]; exact h)
theorem cover (p q : Int) (h : q < p) : ∀ l : List Int, l.length ≤ lt_ p l + gt_ q l
  | [] => by simp
  | x :: l => by
    have := cover p q h l
    rw [lt_cons, gt_cons, List.length_cons]
    split <;> split <;> omega
theorem lo_le_hi {l : List Int} (h : 3 ≤ l.length) : lo l ≤ hi l := by
  refine Int.not_lt.1 fun hc => ?_
  have h1 := (lo_iff (l := l) (by omega) (lo l)).1 (Int.le_refl _)
  have h2 := (hi_iff (l := l) (by omega) (hi l)).1 (Int.le_refl _)
  have := cover _ _ hc l
  omega
theorem lo_ge {l : List Int} (h : 2 ≤ l.length) {b : Int} (hb : ∀ x ∈ l, b ≤ x) : b ≤ lo l := (lo_iff h b).2 (by rw [lt_zero b l hb]; omega)
theorem hi_le {l : List Int} (h : 2 ≤ l.length) {b : Int} (hb : ∀ x ∈ l, x ≤ b) : hi l ≤ b := (hi_iff h b).2 (by rw [gt_zero b l hb]; omega)
theorem lo_unique {l : List Int} (h : 2 ≤ l.length) {b : Int} (hb : ∀ v, v ≤ b ↔ lt_ v l ≤ 1) : b = lo l := by
  have h1 := (lo_iff h b).2 ((hb b).1 (Int.le_refl _))
  have h2 := (hb (lo l)).2 ((lo_iff h (lo l)).1 (Int.le_refl _))
  omega
theorem hi_unique {l : List Int} (h : 2 ≤ l.length) {b : Int} (hb : ∀ v, b ≤ v ↔ gt_ v l ≤ 1) : b = hi l := by
  have h1 := (hi_iff h b).2 ((hb b).1 (Int.le_refl _))
  have h2 := (hb (hi l)).2 ((hi_iff h (hi l)).1 (Int.le_refl _))
  omega
theorem lo_perm {a b : List Int} (h : 2 ≤ a.length) (hp : a.Perm b) : lo a = lo b :=
  lo_unique (by rw [← hp.length_eq]; exact h) (fun v => by rw [← lt_perm v hp]; exact lo_iff h v)
theorem hi_perm {a b : List Int} (h : 2 ≤ a.length) (hp : a.Perm b) : hi a = hi b :=
  hi_unique (by rw [← hp.length_eq]; exact h) (fun v => by rw [← gt_perm v hp]; exact hi_iff h v)
theorem Mid_few {l : List Int} (h : l.length < 4) : mid_Mid.f l = some (0, false) := by
  unfold mid_Mid.f
  rw [if_pos h]
theorem Mid_some {l : List Int} (h : 4 ≤ l.length) (h1 : l.length ≤ 1000000) (B : Int) (hB : B ≤ 1000000000000) (hb : ∀ x ∈ l, -B ≤ x ∧ x ≤ B) : mid_Mid.f l = some ((lo l + hi l) / 2, true) := by
  have h2 := lo_ge (l := l) (by omega) (fun x hx => (hb x hx).1)
  have h3 := hi_le (l := l) (by omega) (fun x hx => (hb x hx).2)
  have h4 := lo_le_hi (l := l) (by omega)
  unfold mid_Mid.f
  rw [if_neg (by omega), if_neg (by omega)]
  change some (wrap64 (lo l + hi l) / 2, true) = _
  rw [w64 _ (by omega) (by omega)]
theorem Mid_perm {a b : List Int} (hp : a.Perm b) : mid_Mid.f a = mid_Mid.f b := by
  unfold mid_Mid.f
  rw [hp.length_eq]
  split
  · rfl
  · rename_i h
    have h1 := lo_perm (a := a) (by rw [hp.length_eq]; omega) hp
    have h2 := hi_perm (a := a) (by rw [hp.length_eq]; omega) hp
    unfold lo srt at h1
    unfold hi srt at h2
    rw [hp.length_eq] at h2
    rw [h1, h2]
theorem lo_of {l : List Int} {b : Int} (h : 2 ≤ l.length) (h1 : lt_ b l ≤ 1) (h2 : 2 ≤ lt_ (b + 1) l) : lo l = b := by
  have a1 := (lo_iff h b).2 h1
  have a2 := lo_iff h (b + 1)
  refine Int.le_antisymm ?_ a1
  refine Int.not_lt.1 fun hc => ?_
  have := a2.1 (by omega)
  omega
theorem hi_of {l : List Int} {b : Int} (h : 2 ≤ l.length) (h1 : gt_ b l ≤ 1) (h2 : 2 ≤ gt_ (b - 1) l) : hi l = b := by
  have a1 := (hi_iff h b).2 h1
  have a2 := hi_iff h (b - 1)
  refine Int.le_antisymm a1 ?_
  refine Int.not_lt.1 fun hc => ?_
  have := a2.1 (by omega)
  omega
/-! #### clocks -/
theorem Step_few : sync_Step.f 0 0 ([] : List S35) = some 0 := by
  unfold sync_Step.f
  rfl
theorem known12 : plaitinglaw12_known.f = some true := by
  unfold plaitinglaw12_known.f
  rw [Step_few, Option.bind_some, if_pos rfl]
  rfl
theorem mx_ge (a b : Int) : a ≤ mx a b ∧ b ≤ mx a b ∧ (mx a b = a ∨ mx a b = b) := by
  unfold mx
  split <;> omega
theorem mn_le (a b : Int) : mn a b ≤ a ∧ mn a b ≤ b ∧ (mn a b = a ∨ mn a b = b) := by
  unfold mn
  split <;> omega
theorem mxGo_le : ∀ (l : List Int) (m B : Int), m ≤ B → (∀ x ∈ l, x ≤ B) → mxGo l m ≤ B
  | [], m, B, h, _ => h
  | x :: l, m, B, h, hl => by
    have := mx_ge m x
    have hx := hl x (by simp)
    exact mxGo_le l (mx m x) B (by omega) (fun y hy => hl y (by simp [hy]))
theorem mxGo_ge : ∀ (l : List Int) (m : Int), m ≤ mxGo l m ∧ ∀ x ∈ l, x ≤ mxGo l m
  | [], m => ⟨Int.le_refl _, by simp⟩
  | x :: l, m => by
    have h1 := mxGo_ge l (mx m x)
    have h2 := mx_ge m x
    rw [mxGo]
    refine ⟨by omega, fun y hy => ?_⟩
    rcases List.mem_cons.1 hy with rfl | hy
    · omega
    · exact h1.2 y hy
theorem mnGo_ge : ∀ (l : List Int) (m B : Int), B ≤ m → (∀ x ∈ l, B ≤ x) → B ≤ mnGo l m
  | [], m, B, h, _ => h
  | x :: l, m, B, h, hl => by
    have := mn_le m x
    have hx := hl x (by simp)
    exact mnGo_ge l (mn m x) B (by omega) (fun y hy => hl y (by simp [hy]))
theorem mnGo_le : ∀ (l : List Int) (m : Int), mnGo l m ≤ m ∧ ∀ x ∈ l, mnGo l m ≤ x
  | [], m => ⟨Int.le_refl _, by simp⟩
  | x :: l, m => by
    have h1 := mnGo_le l (mn m x)
    have h2 := mn_le m x
    rw [mnGo]
    refine ⟨by omega, fun y hy => ?_⟩
    rcases List.mem_cons.1 hy with rfl | hy
    · omega
    · exact h1.2 y hy
theorem mxGo_put (d : Int) : ∀ (l : List Int) (m : Int), mxGo (l.map (· + d)) (m + d) = mxGo l m + d
  | [], m => rfl
  | x :: l, m => by
    have : mx (m + d) (x + d) = mx m x + d := by
      unfold mx
      split <;> split <;> omega
    rw [List.map_cons, mxGo, mxGo, this, mxGo_put d l]
theorem mnGo_put (d : Int) : ∀ (l : List Int) (m : Int), mnGo (l.map (· + d)) (m + d) = mnGo l m + d
  | [], m => rfl
  | x :: l, m => by
    have : mn (m + d) (x + d) = mn m x + d := by
      unfold mn
      split <;> split <;> omega
    rw [List.map_cons, mnGo, mnGo, this, mnGo_put d l]
/-- How far numbers are apart. -/
def skw : List Int → Int
  | [] => 0
  | x :: l => mxGo l x - mnGo l x
theorem skw_nonneg : ∀ l : List Int, 0 ≤ skw l
  | [] => Int.le_refl _
  | x :: l => by
    have h1 := (mxGo_ge l x).1
    have h2 := (mnGo_le l x).1
    rw [skw]
    omega
theorem skw_put (d : Int) : ∀ l : List Int, skw (l.map (· + d)) = skw l
  | [] => rfl
  | x :: l => by
    rw [List.map_cons, skw, skw, mxGo_put, mnGo_put]
    omega
theorem skw_le {l : List Int} {a z : Int} (h : a ≤ z) (hl : ∀ x ∈ l, a ≤ x ∧ x ≤ z) : skw l ≤ z - a := by
  match l with
  | [] => simp only [skw]; omega
  | x :: l =>
    have hx := hl x (by simp)
    have h1 := mxGo_le l x z hx.2 (fun y hy => (hl y (by simp [hy])).2)
    have h2 := mnGo_ge l x a hx.1 (fun y hy => (hl y (by simp [hy])).1)
    rw [skw]
    omega
/-- It is reached. -/
theorem mxGo_in : ∀ (l : List Int) (m : Int), mxGo l m = m ∨ mxGo l m ∈ l
  | [], m => .inl rfl
  | x :: l, m => by
    rw [mxGo]
    rcases mxGo_in l (mx m x) with h | h
    · rw [h]
      rcases (mx_ge m x).2.2 with e | e <;> rw [e]
      · exact .inl rfl
      · exact .inr (by simp)
    · exact .inr (by simp [h])
theorem mnGo_in : ∀ (l : List Int) (m : Int), mnGo l m = m ∨ mnGo l m ∈ l
  | [], m => .inl rfl
  | x :: l, m => by
    rw [mnGo]
    rcases mnGo_in l (mn m x) with h | h
    · rw [h]
      rcases (mn_le m x).2.2 with e | e <;> rw [e]
      · exact .inl rfl
      · exact .inr (by simp)
    · exact .inr (by simp [h])
theorem skw_two {l : List Int} (h : l ≠ []) : ∃ x ∈ l, ∃ y ∈ l, skw l = x - y ∧ ∀ v ∈ l, y ≤ v ∧ v ≤ x := by
  match l, h with
  | x :: l, _ =>
    refine ⟨mxGo l x, ?_, mnGo l x, ?_, rfl, ?_⟩
    · rcases mxGo_in l x with e | e
      · rw [e]; simp
      · simp [e]
    · rcases mnGo_in l x with e | e
      · rw [e]; simp
      · simp [e]
    · intro v hv
      have h1 := mxGo_ge l x
      have h2 := mnGo_le l x
      rcases List.mem_cons.1 hv with rfl | hv
      · exact ⟨h2.1, h1.1⟩
      · exact ⟨h2.2 v hv, h1.2 v hv⟩
theorem skw_bound {l : List Int} {B : Int} (h0 : 0 ≤ B) (hb : ∀ x ∈ l, -B ≤ x ∧ x ≤ B) : skw l ≤ 2 * B := by
  have := skw_le (l := l) (a := -B) (z := B) (by omega) hb
  omega
theorem Skew_eq {l : List Int} (h : l.length ≤ 1000000) (B : Int) (h0 : 0 ≤ B) (hB : B ≤ 1000000000000) (hb : ∀ x ∈ l, -B ≤ x ∧ x ≤ B) : sync_Skew.f l = some (skw l) := by
  have h2 := skw_bound h0 hb
  have h1 := skw_nonneg l
  unfold sync_Skew.f
  match l with
  | [] => rfl
  | x :: l =>
    rw [if_neg (by simp), if_neg (by omega)]
    change some (wrap64 (skw (x :: l))) = _
    rw [w64 _ (by omega) (by omega)]
theorem ref_l0 (l : List Int) (hl : l.length ≤ 1000000) (B : Int) (h0 : 0 ≤ B) (hB : B ≤ 1000000000000) (hb : ∀ x ∈ l, -B ≤ x ∧ x ≤ B) : ∀ (d k i : Nat) (a z : Int), i + d = l.length → d < k → (-B ≤ a ∧ a ≤ B) → (-B ≤ z ∧ z ≤ B) →
    plaitingref12_Skew.l0 k l a z (i : Int) = some (mxGo (l.drop i) z - mnGo (l.drop i) a) := by
  intro d
  induction d with
  | zero =>
    intro k i a z hi hk ha hz
    obtain ⟨k, rfl⟩ : ∃ q, k = q + 1 := ⟨k - 1, by omega⟩
    obtain rfl : i = l.length := by omega
    simp only [plaitingref12_Skew.l0]
    rw [if_neg (by omega), List.drop_length, w64 _ (by omega) (by omega)]
    rfl
  | succ d ih =>
    intro k i a z hi hk ha hz
    obtain ⟨k, rfl⟩ : ∃ q, k = q + 1 := ⟨k - 1, by omega⟩
    have hil : i < l.length := by omega
    have h1 := hb l[i] (by simp)
    have h2 := mx_ge z l[i]
    have h3 := mn_le a l[i]
    simp only [plaitingref12_Skew.l0]
    rw [if_pos (by omega), if_pos (by omega), rd_at l i hil, w64_succ' i (by omega), ih k (i + 1) _ _ (by omega) (by omega) (by omega) (by omega), List.drop_eq_getElem_cons hil, mxGo, mnGo]
theorem mx_same (a : Int) : mx a a = a := by
  unfold mx
  split <;> rfl
theorem mn_same (a : Int) : mn a a = a := by
  unfold mn
  split <;> rfl
theorem refSkew_eq {l : List Int} (h : l.length ≤ 1000000) (B : Int) (h0 : 0 ≤ B) (hB : B ≤ 1000000000000) (hb : ∀ x ∈ l, -B ≤ x ∧ x ≤ B) (k : Nat) (hk : l.length < k) : plaitingref12_Skew.f k l = some (skw l) := by
  unfold plaitingref12_Skew.f
  match l, h, hb, hk with
  | [], _, _, _ => rfl
  | x :: l, h, hb, hk =>
    have hx := hb x (by simp)
    have := ref_l0 (x :: l) h B h0 hB hb (x :: l).length k 0 x x (by omega) hk hx hx
    rw [if_neg (by rw [List.length_cons]; omega), if_pos (by rw [List.length_cons]; omega)]
    rw [show rd (x :: l) 0 = x from rfl]
    refine this.trans ?_
    rw [List.drop_zero, mxGo, mnGo, mx_same, mn_same]
    rfl
theorem dats_app : ∀ a b : List S35, dats (a ++ b) = dats a ++ dats b
  | [], b => rfl
  | x :: a, b => by
    rw [List.cons_append, dats, dats, dats_app a b]
    split <;> simp
theorem dats_one (n v : Int) : dats [(⟨n, 3, v⟩ : S35)] = [v] := rfl
theorem within12 (a n : Int) (hn : 0 < n) (hb : n ≤ 4611686018427387904) : ∃ r, plaitinglaw12_within.f a n = some r ∧ 0 ≤ r ∧ r < n := within_of a n hn hb
theorem chosen_data (b : Int → Bool) (x : S35) (l : List S35) (h : x.f1 = 3) : chosenV b (x :: l) = x.f2 := by
  unfold chosenV
  rw [idxGo, if_pos h, if_pos (by decide)]
  rfl
theorem idx_none : ∀ (l : List S35) (i : Int), (∀ x ∈ l, x.f1 ≠ 3) → idxGo l i = -1
  | [], _, _ => rfl
  | x :: l, i, h => by
    rw [idxGo, if_neg (h x (by simp)), idx_none l (i + 1) (fun y hy => h y (by simp [hy]))]
theorem dats_none : ∀ l : List S35, (∀ x ∈ l, x.f1 ≠ 3) → dats l = []
  | [], _ => rfl
  | x :: l, h => by
    rw [dats, if_neg (h x (by simp)), dats_none l (fun y hy => h y (by simp [hy]))]
theorem chosen_cons (b : Int → Bool) (x : S35) (l : List S35) (h : ∀ y ∈ x :: l, y.f1 ≠ 3) : chosenV b (x :: l) = if b x.f0 = true then 0 else x.f2 := by
  unfold chosenV
  rw [idx_none _ _ h, if_neg (by decide), if_neg (by rw [List.length_cons]; omega)]
  rfl
end Go.Proofs.Ytegbklmmkamjgaa.Pure
