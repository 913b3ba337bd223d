/- The law SyncFirst, of what the walk has printed: over numbers and lists alone. -/
import Derived.Test.YtegbklmmkamjgaaPCx11
import Derived.Test.YtegbklmmkamjgaaSyncLib
namespace Go.Proofs.Ytegbklmmkamjgaa.Pure
open Go.RowKit Go.Proofs.Ytegbklmmkamjgaa.PC Go.Proofs.YtegbklmmkamjgaaW.PrintWords Go.Proofs.YtegbklmmkamjgaaW.PrintLast Go.Proofs.YtegbklmmkamjgaaW.PrintMore
theorem Step_c (nd : Int) (l : List S35) (h : ¬ 1000000 < l.length) (m : Int) (is : Bool) (hm : mid_Mid.f (dats l) = some (m, is)) : sync_Step.f 3 nd l = some (if is = true then m else chosenV (fun n => decide (nd < n)) l) := by
  unfold sync_Step.f
  rw [if_neg h, if_neg (by decide), if_pos rfl, hm]
  rfl
theorem Step_l (nd : Int) (l : List S35) (h : ¬ 1000000 < l.length) : sync_Step.f 1 nd l = some (chosenV (fun _ => false) l) := by
  unfold sync_Step.f
  rw [if_neg h, if_neg (by decide), if_neg (by decide), if_pos rfl]
theorem Step_b (nd : Int) (l : List S35) (h : ¬ 1000000 < l.length) : sync_Step.f 2 nd l = some (chosenV (fun n => decide (nd < n)) l) := by
  unfold sync_Step.f
  rw [if_neg h, if_neg (by decide), if_neg (by decide), if_neg (by decide), if_pos rfl]
theorem rd_app_lt (l : List Int) (x : Int) (j : Nat) (h : j < l.length) : rd (l ++ [x]) (j : Int) = rd l j := by
  rw [rd_at _ j (by rw [List.length_append]; omega), rd_at _ j h, List.getElem_append_left h]
theorem rd_app_len (l : List Int) (x : Int) (j : Nat) (h : j = l.length) : rd (l ++ [x]) (j : Int) = x := by
  subst h
  rw [rd_at _ _ (by rw [List.length_append]; simp)]
  simp
theorem rd_all {l : List Int} {P : Int → Prop} (h : ∀ x ∈ l, P x) (j : Nat) (hj : j < l.length) : P (rd l j) := by
  rw [rd_at l j hj]
  exact h _ (by simp)
/-- Who is the first one of those that say something. -/
structure Fst (s : List Int) (m : Nat) : Prop where
  lt : m < s.length
  is : rd s m ≠ 1
  ahead : ∀ j : Nat, j < m → rd s j = 1
theorem Fst.more {s : List Int} {m : Nat} (h : Fst s m) (t : Int) : Fst (s ++ [t]) m :=
  ⟨by rw [List.length_append]; have := h.lt; omega, by rw [rd_app_lt s t m h.lt]; exact h.is, fun j hj => by rw [rd_app_lt s t j (by have := h.lt; omega)]; exact h.ahead j hj⟩
theorem Fst.begin {s : List Int} {t : Int} (h : ∀ j : Nat, j < s.length → rd s j = 1) (ht : t ≠ 1) : Fst (s ++ [t]) s.length :=
  ⟨by simp, by rw [rd_app_len s t _ rfl]; exact ht, fun j hj => by rw [rd_app_lt s t j hj]; exact h j hj⟩
structure Inv2 (cm ci e : Int) (m i k : Nat) (acc : List S35) : Prop where
  len : acc.length ≤ k
  no : ∀ x ∈ acc, x.f1 ≠ 3
  own : i = m → ∀ x ∈ acc, (m : Int) < x.f0
  before : i ≠ m → k ≤ m → acc = []
  behind : i ≠ m → m < k → ∃ x rest, acc = x :: rest ∧ x.f0 = m ∧ cm - ci - e ≤ x.f2 ∧ x.f2 ≤ cm - ci + e
theorem Inv2.skip {cm ci e : Int} {m i k : Nat} {acc : List S35} (h : Inv2 cm ci e m i k acc) (hk : k = i ∨ k ≠ m) : Inv2 cm ci e m i (k + 1) acc :=
  ⟨by have := h.len; omega, h.no, h.own, fun h1 h2 => h.before h1 (by omega), fun h1 h2 => h.behind h1 (by omega)⟩
theorem Inv2.put {cm ci e : Int} {m i k : Nat} {acc : List S35} (h : Inv2 cm ci e m i k acc) (hik : k ≠ i) (hkm : m ≤ k) (t v : Int) (ht : t ≠ 3) (hv : k = m → cm - ci - e ≤ v ∧ v ≤ cm - ci + e) : Inv2 cm ci e m i (k + 1) (acc ++ [⟨k, t, v⟩]) := by
  refine ⟨by have := h.len; rw [List.length_append, List.length_singleton]; omega, fun x hx => ?_, fun h1 x hx => ?_, fun h1 h2 => by omega, fun h1 h2 => ?_⟩
  · rcases List.mem_append.1 hx with hx | hx
    · exact h.no x hx
    · obtain rfl := List.mem_singleton.1 hx
      exact ht
  · rcases List.mem_append.1 hx with hx | hx
    · exact h.own h1 x hx
    · obtain rfl := List.mem_singleton.1 hx
      show (m : Int) < (k : Int)
      omega
  · by_cases hk : k = m
    · rw [h.before h1 (by omega)]
      refine ⟨_, [], rfl, ?_, hv hk⟩
      show (k : Int) = (m : Int)
      rw [hk]
    · obtain ⟨x, rest, rfl, h3, h4⟩ := h.behind h1 (by omega)
      exact ⟨x, rest ++ [⟨k, t, v⟩], rfl, h3, h4⟩
theorem Inv2.step {cm ci e : Int} {m i n : Nat} {acc : List S35} (h : Inv2 cm ci e m i n acc) (hn : n ≤ 11) (hm : m < n) (t : Int) (ht : t = 1 ∨ t = 2 ∨ t = 3) (h1 : i = m → t ≠ 1) (h2 : i < m → t = 1) :
    ∃ v, sync_Step.f t i acc = some v ∧ (i = m → v = 0) ∧ (i ≠ m → cm - ci - e ≤ v ∧ v ≤ cm - ci + e) := by
  have hl := h.len
  have hd : mid_Mid.f (dats acc) = some (0, false) := by rw [dats_none acc h.no]; exact Mid_few (by decide)
  by_cases him : i = m
  · have hz : chosenV (fun n => decide ((i : Int) < n)) acc = 0 := by
      match acc, h.no, h.own him with
      | [], _, _ => rfl
      | x :: l, hno, hown =>
        have := hown x (by simp)
        rw [chosen_cons _ x l hno, if_pos (by rw [him]; exact decide_eq_true this)]
    refine ⟨0, ?_, fun _ => rfl, fun hc => absurd him hc⟩
    rcases ht with rfl | rfl | rfl
    · exact absurd rfl (h1 him)
    · rw [Step_b _ _ (by omega), hz]
    · rw [Step_c _ _ (by omega) _ _ hd, if_neg (by decide), hz]
  · obtain ⟨x, rest, rfl, h3, h4⟩ := h.behind him hm
    refine ⟨x.f2, ?_, fun hc => absurd hc him, fun _ => h4⟩
    have hb : ¬ (i < m) → chosenV (fun n => decide ((i : Int) < n)) (x :: rest) = x.f2 := by
      intro hnl
      rw [chosen_cons _ x rest h.no, h3, if_neg]
      rw [decide_eq_true_eq]
      omega
    rcases ht with rfl | rfl | rfl
    · rw [Step_l _ _ (by omega), chosen_cons _ x rest h.no, if_neg (by decide)]
    · rw [Step_b _ _ (by omega), hb (fun hc => absurd (h2 hc) (by decide))]
    · rw [Step_c _ _ (by omega) _ _ hd, if_neg (by decide), hb (fun hc => absurd (h2 hc) (by decide))]
theorem tmod_ix (a m : Int) (ha : 0 ≤ a) (hm : 0 < m) : 0 ≤ Int.tmod a m ∧ Int.tmod a m < m := ⟨Int.tmod_nonneg m ha, Int.tmod_lt_of_pos a hm⟩
theorem kinds (t : Int) (h : t = 2 ∨ t = 3) : 0 ≤ wrap64 (t - 2) ∧ wrap64 (t - 2) < ((([1, 2] : List Int).length : Nat) : Int) ∧ rd [1, 2] (wrap64 (t - 2)) ≠ 3 := by
  rcases h with rfl | rfl
  · rw [w64 (2 - 2) (by decide) (by decide)]; decide
  · rw [w64 (3 - 2) (by decide) (by decide)]; decide
theorem first_l2 (es c dl s : List Int) (e : Int) (n m i : Nat) (he : 0 ≤ e) (he2 : e < 30) (hc : c.length = n) (hs : s.length = n) (h11 : n ≤ 11) (hi : i < n) (hcb : ∀ x ∈ c, 0 ≤ x ∧ x < 100000) (hsb : ∀ x ∈ s, x = 1 ∨ x = 2 ∨ x = 3) (hf : Fst s m) (hdl : dl.length ≤ 100) : ∀ (d kk k : Nat) (acc : List S35), k + d = n → Inv2 (rd c m) (rd c i) e m i k acc →
    ∃ v, (i = m → v = rd c m) ∧ rd c m - e ≤ v ∧ v ≤ rd c m + e ∧ plaitinglaw12_SyncFirst.l2 (kk + 2 * d + 1) es n e c dl s m i acc k = plaitinglaw12_SyncFirst.l1 kk es n e c (dl ++ [v]) s m ((i + 1 : Nat) : Int) := by
  have hmn : m < n := by have := hf.lt; omega
  have hib := rd_all hcb i (by omega)
  have hmb := rd_all hcb m (by omega)
  intro d
  induction d with
  | zero =>
    intro kk k acc hk h
    obtain rfl : k = n := by omega
    have hlen := h.len
    obtain ⟨v, hv, v1, v2⟩ := h.step h11 hmn (rd s i) (rd_all hsb i (by omega)) (fun e1 => by rw [e1]; exact hf.is) (fun e1 => hf.ahead i e1)
    rw [show kk + 2 * 0 + 1 = kk + 1 by omega]
    simp only [plaitinglaw12_SyncFirst.l2]
    rw [if_neg (by omega), if_pos (by omega), if_pos (by omega), if_pos (by omega), hv, Option.bind_some, if_pos (by omega), w64_succ' i (by omega)]
    by_cases him : i = m
    · subst him
      have := v1 rfl
      subst this
      exact ⟨rd c i, fun _ => rfl, by omega, by omega, by rw [Int.add_zero, w64 _ (by omega) (by omega)]⟩
    · have := v2 him
      exact ⟨rd c i + v, fun hc => absurd hc him, by omega, by omega, by rw [w64 _ (by omega) (by omega)]⟩
  | succ d ih =>
    intro kk k acc hk h
    have hlen := h.len
    have hkb := rd_all hcb k (by omega)
    have hst := rd_all hsb k (by omega)
    have ih := ih kk (k + 1)
    rw [show kk + 2 * (d + 1) + 1 = ((kk + 2 * d + 1) + 1) + 1 by omega]
    generalize kk + 2 * d + 1 = q at ih ⊢
    rw [show plaitinglaw12_SyncFirst.l2 (q + 1 + 1) es n e c dl s m i acc k = (if (k : Int) = i then plaitinglaw12_SyncFirst.j4 (q + 1) es n e c dl s m i acc k true else plaitinglaw12_SyncFirst.j4 (q + 1) es n e c dl s m i acc k ((rd s k) == 1)) by
      simp only [plaitinglaw12_SyncFirst.l2]
      rw [if_pos (by omega)]
      by_cases hki : (k : Int) = i
      · rw [if_pos hki, if_pos hki]
      · rw [if_neg hki, if_neg hki, if_pos (by omega), if_pos (by omega)]]
    by_cases hki : k = i
    · subst hki
      rw [if_pos rfl]
      simp only [plaitinglaw12_SyncFirst.j4]
      rw [if_pos trivial, w64_succ' k (by omega)]
      exact ih acc (by omega) (h.skip (.inl rfl))
    · rw [if_neg (by omega)]
      by_cases h1 : rd s k = 1
      · rw [beq_iff_eq.2 h1]
        simp only [plaitinglaw12_SyncFirst.j4]
        rw [if_pos trivial, w64_succ' k (by omega)]
        exact ih acc (by omega) (h.skip (.inr (fun hkm => hf.is (hkm ▸ h1))))
      · rw [beq_eq_false_iff_ne.2 h1]
        have hmk : m ≤ k := Nat.not_lt.1 fun hc => h1 (hf.ahead k hc)
        obtain ⟨k0, k1, k2⟩ := kinds (rd s k) (by omega)
        simp only [plaitinglaw12_SyncFirst.j4]
        rw [if_neg (by decide), if_pos (by omega), if_pos (by omega), if_pos (by omega), if_pos (by omega)]
        by_cases hx : (es.length : Int) > 0
        · rw [w64 (5 * (i : Int)) (by omega) (by omega), w64 (5 * (i : Int) + k) (by omega) (by omega), w64 (2 * e) (by omega) (by omega), w64 (2 * e + 1) (by omega) (by omega)]
          obtain ⟨t0, t1⟩ := tmod_ix (5 * i + k) es.length (Int.add_nonneg (Int.mul_nonneg (by decide) (Int.natCast_nonneg i)) (Int.natCast_nonneg k)) hx
          rw [if_pos hx, if_neg (Int.ne_of_gt hx), if_pos t0, if_pos t1]
          clear t0 t1
          generalize rd es (Int.tmod (5 * i + k) es.length) = y
          obtain ⟨t, ht, u0, u1⟩ := within12 y (2 * e + 1) (by omega) (by omega)
          have hkl : (k : Int) < (s.length : Int) := by omega
          rw [ht, Option.bind_some, Option.bind_some, if_pos hkl, if_pos k0, if_pos k1]
          clear ht hx y k0 k1
          generalize rd [1, 2] (wrap64 (rd s k - 2)) = kd at k2 ⊢
          rw [if_pos (by omega)]
          rw [w64 (rd c k - rd c i) (by omega) (by omega), w64 (rd c k - rd c i + t) (by omega) (by omega), w64 (rd c k - rd c i + t - e) (by omega) (by omega), w64_succ' k (by omega)]
          exact ih _ (by omega) (h.put hki hmk _ _ k2 (fun hkm => by subst hkm; exact ⟨by omega, by omega⟩))
        · have hkl : (k : Int) < (s.length : Int) := by omega
          rw [if_neg hx, Option.bind_some, if_pos hkl, if_pos k0, if_pos k1]
          clear hx k0 k1
          generalize rd [1, 2] (wrap64 (rd s k - 2)) = kd at k2 ⊢
          rw [if_pos (by omega)]
          rw [w64 (rd c k - rd c i) (by omega) (by omega), w64_succ' k (by omega)]
          exact ih _ (by omega) (h.put hki hmk _ _ k2 (fun hkm => by subst hkm; exact ⟨by omega, by omega⟩))
theorem first_l3 (c dl : List Int) (e : Int) (n m : Nat) (he : 0 ≤ e) (he2 : e < 30) (hc : c.length = n) (h11 : n ≤ 11) (hm : m < n) (hcb : ∀ x ∈ c, 0 ≤ x ∧ x < 100000) (hd : dl.length = n) (hdb : ∀ x ∈ dl, rd c m - e ≤ x ∧ x ≤ rd c m + e) (hdm : rd dl m = rd c m) : ∀ (d k i : Nat), i + d = n → d < k →
    plaitinglaw12_SyncFirst.l3 k n e c dl m i = some true := by
  have hmb := rd_all hcb m (by omega)
  intro d
  induction d with
  | zero =>
    intro k i hi hk
    obtain ⟨k, rfl⟩ : ∃ q, k = q + 1 := ⟨k - 1, by omega⟩
    have hsk := skw_le (l := dl) (a := rd c m - e) (z := rd c m + e) (by omega) hdb
    simp only [plaitinglaw12_SyncFirst.l3]
    rw [if_neg (by omega), if_pos (by omega), if_pos (by omega), if_pos (by omega), if_pos hdm, Skew_eq (by omega) 200000 (by decide) (by decide) (fun x hx => by have := hdb x hx; omega), Option.bind_some, w64 (2 * e) (by omega) (by omega)]
    exact congrArg some (decide_eq_true (by omega))
  | succ d ih =>
    intro k i hi hk
    obtain ⟨k, rfl⟩ : ∃ q, k = q + 1 := ⟨k - 1, by omega⟩
    have hib := rd_all hdb i (by omega)
    simp only [plaitinglaw12_SyncFirst.l3]
    rw [if_pos (by omega), if_pos (by omega), if_pos (by omega), if_pos (by omega), if_pos (by omega), w64 (rd c m - e) (by omega) (by omega), w64 (rd c m + e) (by omega) (by omega), if_neg (by omega), if_neg (by omega), w64_succ' i (by omega)]
    exact ih k (i + 1) (by omega) (by omega)
def fuel (n d : Nat) : Nat := d * (2 * n + 2) + n + 3
theorem first_l1 (es c s : List Int) (e : Int) (n m : Nat) (he : 0 ≤ e) (he2 : e < 30) (hc : c.length = n) (hs : s.length = n) (h11 : n ≤ 11) (hcb : ∀ x ∈ c, 0 ≤ x ∧ x < 100000) (hsb : ∀ x ∈ s, x = 1 ∨ x = 2 ∨ x = 3) (hf : Fst s m) : ∀ (d i : Nat) (dl : List Int), i + d = n → dl.length = i → (∀ x ∈ dl, rd c m - e ≤ x ∧ x ≤ rd c m + e) → (m < i → rd dl m = rd c m) →
    plaitinglaw12_SyncFirst.l1 (fuel n d) es n e c dl s m i = some true := by
  have hmn : m < n := by have := hf.lt; omega
  intro d
  induction d with
  | zero =>
    intro i dl hi hl hb hm
    rw [show fuel n 0 = (n + 2) + 1 by simp [fuel]]
    simp only [plaitinglaw12_SyncFirst.l1]
    rw [if_neg (by omega)]
    exact first_l3 c dl e n m he he2 hc h11 hmn hcb (by omega) hb (hm (by omega)) n (n + 2) 0 (by omega) (by omega)
  | succ d ih =>
    intro i dl hi hl hb hm
    rw [show fuel n (d + 1) = (fuel n d + 2 * n + 1) + 1 by unfold fuel; rw [Nat.succ_mul]; omega]
    simp only [plaitinglaw12_SyncFirst.l1]
    rw [if_pos (by omega)]
    obtain ⟨v, v0, v1, v2, e1⟩ := first_l2 es c dl s e n m i he he2 hc hs h11 (by omega) hcb hsb hf (by omega) n (fuel n d) 0 [] (by omega) ⟨Nat.le_refl _, by simp, by simp, fun _ _ => rfl, fun _ h => by omega⟩
    refine e1.trans (ih (i + 1) (dl ++ [v]) (by omega) (by simp; omega) (fun x hx => ?_) (fun hmi => ?_))
    · rcases List.mem_append.1 hx with hx | hx
      · exact hb x hx
      · obtain rfl := List.mem_singleton.1 hx
        exact ⟨v1, v2⟩
    · by_cases him : i = m
      · rw [rd_app_len dl v m (by omega), v0 him]
      · rw [rd_app_lt dl v m (by omega), hm (by omega)]
theorem states (t : Int) (h0 : 0 ≤ t) (h1 : t < 3) : rd [1, 2, 3] t = 1 ∨ rd [1, 2, 3] t = 2 ∨ rd [1, 2, 3] t = 3 := by
  obtain rfl | rfl | rfl : t = 0 ∨ t = 1 ∨ t = 2 := by omega
  all_goals decide
theorem first_l0 (ns es st : List Int) (e : Int) (n : Nat) (he : 0 ≤ e) (he2 : e < 30) (h11 : n ≤ 11) : ∀ (d i : Nat) (c s : List Int) (f : Int), i + d = n → c.length = i → s.length = i → (∀ x ∈ c, 0 ≤ x ∧ x < 100000) → (∀ x ∈ s, x = 1 ∨ x = 2 ∨ x = 3) → (f = -1 ∧ (∀ j : Nat, j < s.length → rd s j = 1) ∨ ∃ m : Nat, f = m ∧ Fst s m) →
    plaitinglaw12_SyncFirst.l0 (fuel n n + 2 * d + 1) ns es st n e c s f i = some true := by
  intro d
  induction d with
  | zero =>
    intro i c s f hi hc hs hcb hsb hf
    rw [show fuel n n + 2 * 0 + 1 = fuel n n + 1 by omega]
    simp only [plaitinglaw12_SyncFirst.l0]
    rw [if_neg (by omega)]
    rcases hf with ⟨rfl, _⟩ | ⟨m, rfl, hf⟩
    · rw [if_pos (by decide)]
    · rw [if_neg (by omega)]
      exact first_l1 es c s e n m he he2 (by omega) (by omega) h11 hcb hsb hf n 0 [] (by omega) rfl (by simp) (fun h => by omega)
  | succ d ih =>
    intro i c s f hi hc hs hcb hsb hf
    rw [show fuel n n + 2 * (d + 1) + 1 = ((fuel n n + 2 * d + 1) + 1) + 1 by omega]
    generalize fuel n n + 2 * d + 1 = q at ih ⊢
    have hput : ∀ v t : Int, 0 ≤ v → v < 100000 → (t = 1 ∨ t = 2 ∨ t = 3) → (if f < 0 then (if t = 1 then plaitinglaw12_SyncFirst.l0 q ns es st n e (c ++ [v]) (s ++ [t]) f (wrap64 ((i : Int) + 1)) else plaitinglaw12_SyncFirst.l0 q ns es st n e (c ++ [v]) (s ++ [t]) i (wrap64 ((i : Int) + 1))) else plaitinglaw12_SyncFirst.l0 q ns es st n e (c ++ [v]) (s ++ [t]) f (wrap64 ((i : Int) + 1))) = some true := by
      intro v t v0 v1 ht
      rw [w64_succ' i (by omega)]
      have hgo := fun f hf => ih (i + 1) (c ++ [v]) (s ++ [t]) f (by omega) (by simp; omega) (by simp; omega) (fun x hx => by
        rcases List.mem_append.1 hx with hx | hx
        · exact hcb x hx
        · obtain rfl := List.mem_singleton.1 hx
          exact ⟨v0, v1⟩) (fun x hx => by
        rcases List.mem_append.1 hx with hx | hx
        · exact hsb x hx
        · obtain rfl := List.mem_singleton.1 hx
          exact ht) hf
      rcases hf with ⟨rfl, hf⟩ | ⟨m, rfl, hf⟩
      · rw [if_pos (by decide)]
        by_cases h1 : t = 1
        · rw [if_pos h1]
          refine hgo _ (.inl ⟨rfl, fun j hj => ?_⟩)
          by_cases hj2 : j = s.length
          · rw [rd_app_len s t j hj2, h1]
          · rw [List.length_append, List.length_singleton] at hj
            rw [rd_app_lt s t j (by omega)]
            exact hf j (by omega)
        · rw [if_neg h1]
          exact hgo _ (.inr ⟨i, rfl, hs ▸ Fst.begin hf h1⟩)
      · rw [if_neg (by omega)]
        exact hgo _ (.inr ⟨m, rfl, hf.more t⟩)
    have hj1 : ∀ v : Int, 0 ≤ v → v < 100000 → plaitinglaw12_SyncFirst.j1 (q + 1) ns es st n e c s f i v 3 = some true := by
      intro v v0 v1
      simp only [plaitinglaw12_SyncFirst.j1]
      by_cases hst : (i : Int) < (st.length : Int)
      · obtain ⟨t, ht, t0, t1⟩ := within12 (rd st i) 3 (by decide) (by decide)
        have hp := hput v (rd [1, 2, 3] t) v0 v1 (states t t0 t1)
        have t2 : t < ((([1, 2, 3] : List Int).length : Nat) : Int) := t1
        rw [if_pos hst, Option.bind_some, if_pos (by omega), ht, Option.bind_some, if_pos t0, if_pos t2, if_pos (by omega), Option.bind_some, if_pos (by omega), Option.bind_some]
        exact hp
      · have hp := hput v 3 v0 v1 (by omega)
        rw [if_neg hst, if_pos (by omega), Option.bind_some, if_pos (by omega), Option.bind_some]
        exact hp
    simp only [plaitinglaw12_SyncFirst.l0]
    rw [if_pos (by omega)]
    by_cases hin : (i : Int) < (ns.length : Int)
    · obtain ⟨v, hv, v0, v1⟩ := within12 (rd ns i) 100000 (by decide) (by decide)
      rw [if_pos hin, if_pos (by omega), hv, Option.bind_some]
      exact hj1 v v0 v1
    · rw [if_neg hin]
      exact hj1 0 (by decide) (by decide)
theorem SyncFirst : plaitinglaw12_SyncFirst.Pure := by
  intro l0 l1 l2 a3 a4 _ _ _ _ _ _ _ _ _ _ _
  obtain ⟨n, hn, n0, n1⟩ := within12 a3 10 (by decide) (by decide)
  obtain ⟨e, he, e0, e1⟩ := within12 a4 30 (by decide) (by decide)
  obtain ⟨m, hm⟩ : ∃ m : Nat, 2 + n = (m : Int) := ⟨(2 + n).toNat, by omega⟩
  refine ⟨fuel m m + 2 * m + 1, ?_⟩
  unfold plaitinglaw12_SyncFirst.f
  rw [known12, Option.bind_some, if_pos rfl, hn, Option.bind_some, he, Option.bind_some, w64 (2 + n) (by omega) (by omega), hm]
  exact first_l0 l0 l1 l2 e m e0 e1 (by omega) m 0 [] [] (-1) (by omega) rfl rfl (by simp) (by simp) (.inl ⟨rfl, by simp⟩)
end Go.Proofs.Ytegbklmmkamjgaa.Pure
