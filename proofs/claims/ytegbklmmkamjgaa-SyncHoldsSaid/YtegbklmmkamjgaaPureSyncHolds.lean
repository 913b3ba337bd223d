/- The law SyncHolds, of what the walk has printed: over numbers and lists alone. -/
import Derived.Test.YtegbklmmkamjgaaPCx8
import Derived.Test.YtegbklmmkamjgaaSyncLib
namespace Go.Proofs.Ytegbklmmkamjgaa.Pure
open Go.RowKit Go.Proofs.Ytegbklmmkamjgaa.PC Go.Proofs.YtegbklmmkamjgaaW.PrintWords Go.Proofs.YtegbklmmkamjgaaW.PrintLast Go.Proofs.YtegbklmmkamjgaaW.PrintMore
theorem Step_s (nd : Int) (l : List S35) (h : ¬ 1000000 < l.length) (m : Int) (is : Bool) (hm : mid_Mid.f (dats l ++ [0]) = some (m, is)) : sync_Step.f 4 nd l = some m := by
  unfold sync_Step.f
  rw [if_neg h, if_pos rfl, hm]
  rfl
theorem lt_put (d v : Int) : ∀ l : List Int, lt_ v (l.map (· + d)) = lt_ (v - d) l
  | [] => rfl
  | x :: l => by
    rw [List.map_cons, lt_cons, lt_cons, lt_put d v l]
    by_cases h : x + d < v
    · rw [if_pos h, if_pos (by omega)]
    · rw [if_neg h, if_neg (by omega)]
theorem gt_put (d v : Int) : ∀ l : List Int, gt_ v (l.map (· + d)) = gt_ (v - d) l
  | [] => rfl
  | x :: l => by
    rw [List.map_cons, gt_cons, gt_cons, gt_put d v l]
    by_cases h : v < x + d
    · rw [if_pos h, if_pos (by omega)]
    · rw [if_neg h, if_neg (by omega)]
theorem lo_put (d : Int) {l : List Int} (h : 2 ≤ l.length) : lo (l.map (· + d)) = lo l + d :=
  (lo_unique (by rw [List.length_map]; exact h) (fun v => by rw [lt_put, ← lo_iff h]; omega)).symm
theorem hi_put (d : Int) {l : List Int} (h : 2 ≤ l.length) : hi (l.map (· + d)) = hi l + d :=
  (hi_unique (by rw [List.length_map]; exact h) (fun v => by rw [gt_put, ← hi_iff h]; omega)).symm
/-- Readings of numbers, each with an error. -/
def near (e : Int) : List Int → List Int → Prop
  | [], [] => True
  | x :: p, y :: c => (y - e ≤ x ∧ x ≤ y + e) ∧ near e p c
  | _, _ => False
theorem near_snoc {e x y : Int} (h : y - e ≤ x ∧ x ≤ y + e) : ∀ (p c : List Int), near e p c → near e (p ++ [x]) (c ++ [y])
  | [], [], _ => ⟨h, trivial⟩
  | _ :: p, _ :: c, hn => ⟨hn.1, near_snoc h p c hn.2⟩
theorem near_len {e : Int} : ∀ (p c : List Int), near e p c → p.length = c.length
  | [], [], _ => rfl
  | _ :: p, _ :: c, h => by rw [List.length_cons, List.length_cons, near_len p c h.2]
theorem near_all {e : Int} : ∀ (p c : List Int), near e p c → ∀ x ∈ p, ∃ y ∈ c, y - e ≤ x ∧ x ≤ y + e
  | [], [], _, x, hx => by simp at hx
  | z :: p, y :: c, h, x, hx => by
    rcases List.mem_cons.1 hx with rfl | hx
    · exact ⟨y, by simp, h.1⟩
    · obtain ⟨w, hw, hh⟩ := near_all p c h.2 x hx
      exact ⟨w, by simp [hw], hh⟩
theorem near_two {e L H : Int} (hh : H + 2 * e < L) : ∀ (p q c : List Int), near e p c → near e q c → c.length ≤ lt_ L p + gt_ H q
  | [], [], [], _, _ => Nat.zero_le _
  | [], _ :: _, [], _, h => h.elim
  | [], _ :: _, _ :: _, h, _ => h.elim
  | _ :: _, [], [], h, _ => h.elim
  | _ :: _, [], _ :: _, _, h => h.elim
  | x :: p, z :: q, y :: c, h1, h2 => by
    have := near_two hh p q c h1.2 h2.2
    have a1 := h1.1
    have a2 := h2.1
    rw [lt_cons, gt_cons, List.length_cons]
    by_cases h : x < L
    · rw [if_pos h]; omega
    · rw [if_pos (show H < z by omega)]; omega
/-- What is read of numbers, with errors, and one reading more at most: the middle of it. -/
def Row (c : List Int) (e v : Int) : Prop := ∃ p X : List Int, near e p c ∧ X.length ≤ 1 ∧ v = (lo (p ++ X) + hi (p ++ X)) / 2
theorem row_half {c : List Int} (hc : 4 ≤ c.length) {e : Int} {u v a z : Int} (hb : ∀ y ∈ c, a ≤ y ∧ y ≤ z) (hu : Row c e u) (hv : Row c e v) : 2 * (u - v) ≤ z - a + 4 * e + 2 := by
  obtain ⟨p, X, hp, hX, rfl⟩ := hu
  obtain ⟨q, Y, hq, hY, rfl⟩ := hv
  have lp := near_len p c hp
  have lq := near_len q c hq
  have l1 : 2 ≤ (p ++ X).length := by rw [List.length_append]; omega
  have l2 : 2 ≤ (q ++ Y).length := by rw [List.length_append]; omega
  have h1 : hi (p ++ X) ≤ z + e := by
    rw [hi_iff l1, gt_app, gt_zero (z + e) p (fun x hx => by obtain ⟨y, hy, h⟩ := near_all p c hp x hx; have := hb y hy; omega)]
    have : gt_ (z + e) X ≤ X.length := List.countP_le_length
    omega
  have h2 : a - e ≤ lo (q ++ Y) := by
    rw [lo_iff l2, lt_app, lt_zero (a - e) q (fun x hx => by obtain ⟨y, hy, h⟩ := near_all q c hq x hx; have := hb y hy; omega)]
    have := lt_le (a - e) Y
    omega
  have h3 : lo (p ++ X) - 2 * e ≤ hi (q ++ Y) := by
    refine Int.not_lt.1 fun hc2 => ?_
    have g1 := (lo_iff l1 (lo (p ++ X))).1 (Int.le_refl _)
    have g2 := (hi_iff l2 (hi (q ++ Y))).1 (Int.le_refl _)
    have g3 := near_two (e := e) (L := lo (p ++ X)) (H := hi (q ++ Y)) (by omega) p q c hp hq
    rw [lt_app] at g1
    rw [gt_app] at g2
    omega
  omega
theorem rows_skw {c d : List Int} (hc : 4 ≤ c.length) {e : Int} (he : 0 ≤ e) (hd : ∀ v ∈ d, Row c e v) : 2 * skw d ≤ skw c + 4 * e + 2 := by
  have h0 := skw_nonneg c
  by_cases hn : d = []
  · subst hn
    rw [show skw [] = 0 from rfl]
    omega
  · obtain ⟨x, hx, y, hy, e1, _⟩ := skw_two hn
    obtain ⟨z, _, a, _, e2, hb⟩ := skw_two (l := c) (by rintro rfl; simp at hc)
    have := row_half hc hb (hd x hx) (hd y hy)
    omega
structure Inv2 (c : List Int) (e ci : Int) (i k : Nat) (acc : List S35) : Prop where
  len : acc.length ≤ k
  bnd : ∀ x ∈ dats acc, -100000 ≤ x ∧ x ≤ 100000
  row : ∃ p, near e p (c.take k) ∧ ((dats acc).map (· + ci) ++ (if i < k then [ci] else [])).Perm p
theorem Inv2.own {c : List Int} {e ci : Int} {i : Nat} {acc : List S35} (h : Inv2 c e ci i i acc) (he : 0 ≤ e) (hi : i < c.length) (hci : c[i] = ci) : Inv2 c e ci i (i + 1) acc := by
  obtain ⟨p, hn, hp⟩ := h.row
  refine ⟨by have := h.len; omega, h.bnd, p ++ [ci], ?_, ?_⟩
  · rw [← List.take_append_getElem hi, hci]
    exact near_snoc ⟨by omega, by omega⟩ p _ hn
  · rw [if_pos (by omega)]
    rw [if_neg (by omega), List.append_nil] at hp
    exact hp.append_right _
theorem Inv2.other {c : List Int} {e ci : Int} {i k : Nat} {acc : List S35} (h : Inv2 c e ci i k acc) (hk : k < c.length) (hik : k ≠ i) (n v : Int) (hv : c[k] - e ≤ v + ci ∧ v + ci ≤ c[k] + e) (hvb : -100000 ≤ v ∧ v ≤ 100000) : Inv2 c e ci i (k + 1) (acc ++ [⟨n, 3, v⟩]) := by
  obtain ⟨p, hn, hp⟩ := h.row
  refine ⟨by have := h.len; rw [List.length_append, List.length_singleton]; omega, fun x hx => ?_, p ++ [v + ci], ?_, ?_⟩
  · rw [dats_app, dats_one] at hx
    rcases List.mem_append.1 hx with hx | hx
    · exact h.bnd x hx
    · obtain rfl := List.mem_singleton.1 hx
      exact hvb
  · rw [← List.take_append_getElem hk]
    exact near_snoc hv p _ hn
  · have e2 : (if i < k + 1 then [ci] else []) = (if i < k then [ci] else []) := by
      by_cases hh : i < k
      · rw [if_pos hh, if_pos (by omega)]
      · rw [if_neg hh, if_neg (by omega)]
    rw [dats_app, dats_one, List.map_append, List.map_singleton, e2]
    rw [List.append_assoc]
    refine (List.Perm.append_left _ List.perm_append_comm).trans ?_
    rw [← List.append_assoc]
    exact hp.append_right _
/-- What a row of readings puts a clock on to. -/
theorem Inv2.step {c : List Int} {e ci : Int} {i n : Nat} {acc : List S35} (h : Inv2 c e ci i n acc) (hn : c.length = n) (h4 : 4 ≤ n) (h11 : n ≤ 11) (hi : i < n) (X : List S35) (hX : (dats X).length ≤ 1) (hl : X.length ≤ 1) (hXb : ∀ x ∈ dats X, -100000 ≤ x ∧ x ≤ 100000) (nd : Int) :
    ∃ m, sync_Step.f 4 nd (acc ++ X) = some m ∧ -100000 ≤ m ∧ m ≤ 100000 ∧ Row c e (ci + m) := by
  obtain ⟨p, hnr, hp⟩ := h.row
  have hlen := h.len
  rw [if_pos hi, ← hn, List.take_length] at *
  have lp := near_len p c hnr
  have hpl := hp.length_eq
  rw [List.length_append, List.length_map, List.length_singleton] at hpl
  have hb : ∀ x ∈ dats (acc ++ X) ++ [0], -100000 ≤ x ∧ x ≤ 100000 := by
    intro x hx
    rw [dats_app] at hx
    rcases List.mem_append.1 hx with hx | hx
    · rcases List.mem_append.1 hx with hx | hx
      · exact h.bnd x hx
      · exact hXb x hx
    · obtain rfl := List.mem_singleton.1 hx
      omega
  have hL : (dats (acc ++ X) ++ [0]).length = (dats acc).length + (dats X).length + 1 := by rw [dats_app, List.length_append, List.length_append, List.length_singleton]
  have g1 := lo_ge (l := dats (acc ++ X) ++ [0]) (by omega) (fun x hx => (hb x hx).1)
  have g2 := hi_le (l := dats (acc ++ X) ++ [0]) (by omega) (fun x hx => (hb x hx).2)
  have g3 := lo_le_hi (l := dats (acc ++ X) ++ [0]) (by omega)
  refine ⟨_, Step_s nd (acc ++ X) (by rw [List.length_append]; omega) _ _ (Mid_some (by omega) (by omega) 100000 (by decide) hb), by omega, by omega, p, (dats X).map (· + ci), hnr, by rw [List.length_map]; exact hX, ?_⟩
  have hperm : ((dats (acc ++ X) ++ [0]).map (· + ci)).Perm (p ++ (dats X).map (· + ci)) := by
    rw [dats_app, List.map_append, List.map_append, List.map_singleton, Int.zero_add, List.append_assoc]
    refine (List.Perm.append_left _ List.perm_append_comm).trans ?_
    rw [← List.append_assoc]
    exact hp.append_right _
  have hm2 : 2 ≤ ((dats (acc ++ X) ++ [0]).map (· + ci)).length := by rw [List.length_map]; omega
  rw [← lo_perm hm2 hperm, ← hi_perm hm2 hperm, lo_put ci (by omega), hi_put ci (by omega)]
  omega
theorem tmod_ix (a m : Int) (ha : 0 ≤ a) (hm : 0 < m) : 0 ≤ Int.tmod a m ∧ Int.tmod a m < m := ⟨Int.tmod_nonneg m ha, Int.tmod_lt_of_pos a hm⟩
theorem holds_l2 (es xs c dl : List Int) (e : Int) (n i : Nat) (he : 0 ≤ e) (he2 : e < 30) (hc : c.length = n) (h4 : 4 ≤ n) (h11 : n ≤ 11) (hi : i < n) (hcb : ∀ x ∈ c, -200 ≤ x ∧ x ≤ 200) (hdl : dl.length ≤ 100) : ∀ (d kk k : Nat) (acc : List S35), k + d = n → Inv2 c e (rd c i) i k acc →
    ∃ v, Row c e v ∧ -200000 ≤ v ∧ v ≤ 200000 ∧ plaitinglaw12_SyncHolds.l2 (kk + d + 1) es xs e n c dl i acc k = plaitinglaw12_SyncHolds.l1 kk es xs e n c (dl ++ [v]) ((i + 1 : Nat) : Int) := by
  have hci : rd c i = c[i] := rd_at c i (by omega)
  have hcib := hcb c[i] (by simp)
  intro d
  induction d with
  | zero =>
    intro kk k acc hk h
    obtain rfl : k = n := by omega
    rw [Nat.add_zero]
    simp only [plaitinglaw12_SyncHolds.l2]
    have hlen := h.len
    rw [if_neg (by omega)]
    by_cases hx : (xs.length : Int) > 0
    · obtain ⟨t0, t1⟩ := tmod_ix i xs.length (by omega) hx
      rw [if_pos hx, if_neg (Int.ne_of_gt hx), if_pos t0, if_pos t1]
      clear t0 t1
      generalize rd xs (Int.tmod i xs.length) = y
      obtain ⟨t, ht, u0, u1⟩ := within12 y 20001 (by decide) (by decide)
      rw [ht, Option.bind_some, if_pos (by omega), if_pos (by omega), if_pos (by omega), w64 (t - 10000) (by omega) (by omega)]
      obtain ⟨m, hm, m0, m1, hr⟩ := h.step hc h4 h11 hi [⟨(k : Int), 3, t - 10000⟩] (by rw [dats_one]; simp) (by simp) (fun x hx => by rw [dats_one] at hx; obtain rfl := List.mem_singleton.1 hx; omega) (i : Int)
      refine ⟨rd c i + m, hr, by omega, by omega, ?_⟩
      rw [hm, Option.bind_some, if_pos (by omega), w64 (rd c i + m) (by omega) (by omega), w64_succ' i (by omega)]
    · obtain ⟨m, hm, m0, m1, hr⟩ := h.step hc h4 h11 hi [] (by simp [dats]) (by simp) (fun x hx => by simp [dats] at hx) (i : Int)
      rw [List.append_nil] at hm
      refine ⟨rd c i + m, hr, by omega, by omega, ?_⟩
      rw [if_neg hx, if_pos (by omega), if_pos (by omega), hm, Option.bind_some, if_pos (by omega), w64 (rd c i + m) (by omega) (by omega), w64_succ' i (by omega)]
  | succ d ih =>
    intro kk k acc hk h
    have hlen := h.len
    have hck : rd c k = c[k] := rd_at c k (by omega)
    have hckb := hcb c[k] (by simp)
    have ih := ih kk (k + 1)
    rw [show kk + (d + 1) + 1 = (kk + d + 1) + 1 by omega]
    generalize kk + d + 1 = q at ih ⊢
    simp only [plaitinglaw12_SyncHolds.l2]
    rw [if_pos (by omega)]
    by_cases hki : k = i
    · subst hki
      rw [if_pos rfl, w64_succ' k (by omega)]
      exact ih acc (by omega) (h.own he (by omega) hck.symm)
    · rw [if_neg (by omega), if_pos (by omega), if_pos (by omega), if_pos (by omega), if_pos (by omega)]
      by_cases hx : (es.length : Int) > 0
      · rw [w64 (7 * (i : Int)) (by omega) (by omega), w64 (7 * (i : Int) + k) (by omega) (by omega), w64 (2 * e) (by omega) (by omega), w64 (2 * e + 1) (by omega) (by omega)]
        obtain ⟨t0, t1⟩ := tmod_ix (7 * i + k) es.length (Int.add_nonneg (Int.mul_nonneg (by decide) (Int.natCast_nonneg i)) (Int.natCast_nonneg k)) hx
        rw [if_pos hx, if_neg (Int.ne_of_gt hx), if_pos t0, if_pos t1]
        clear t0 t1
        generalize rd es (Int.tmod (7 * i + k) es.length) = y
        obtain ⟨t, ht, u0, u1⟩ := within12 y (2 * e + 1) (by omega) (by omega)
        rw [ht, Option.bind_some, if_pos (by omega)]
        clear ht hx y
        rw [w64 (rd c k - rd c i) (by omega) (by omega), w64 (rd c k - rd c i + t) (by omega) (by omega), w64 (rd c k - rd c i + t - e) (by omega) (by omega), w64_succ' k (by omega)]
        exact ih _ (by omega) (h.other (by omega) hki k _ ⟨by omega, by omega⟩ ⟨by omega, by omega⟩)
      · rw [if_neg hx, if_pos (by omega), w64 (rd c k - rd c i) (by omega) (by omega), w64_succ' k (by omega)]
        exact ih _ (by omega) (h.other (by omega) hki k _ ⟨by omega, by omega⟩ ⟨by omega, by omega⟩)
def fuel (n d : Nat) : Nat := d * (n + 2) + n + 3
theorem holds_l1 (es xs c : List Int) (e : Int) (n : Nat) (he : 0 ≤ e) (he2 : e < 30) (hc : c.length = n) (h4 : 4 ≤ n) (h11 : n ≤ 11) (hcb : ∀ x ∈ c, -200 ≤ x ∧ x ≤ 200) : ∀ (d i : Nat) (dl : List Int), i + d = n → dl.length = i → (∀ v ∈ dl, Row c e v ∧ -200000 ≤ v ∧ v ≤ 200000) →
    plaitinglaw12_SyncHolds.l1 (fuel n d) es xs e n c dl i = some true := by
  intro d
  induction d with
  | zero =>
    intro i dl hi hl hv
    have h1 := rows_skw (by omega) he (fun v h => (hv v h).1)
    have h2 := skw_bound (l := c) (B := 200) (by omega) (fun x hx => hcb x hx)
    have h3 := skw_bound (l := dl) (B := 200000) (by omega) (fun x hx => (hv x hx).2)
    have h5 := skw_nonneg c
    have h6 := skw_nonneg dl
    rw [show fuel n 0 = (n + 2) + 1 by simp [fuel]]
    simp only [plaitinglaw12_SyncHolds.l1]
    rw [if_neg (by omega), refSkew_eq (by omega) 200000 (by decide) (by decide) (fun x hx => (hv x hx).2) (n + 2) (by omega), refSkew_eq (by omega) 200 (by decide) (by decide) hcb (n + 2) (by omega), Option.bind_some, Option.bind_some]
    rw [w64 (2 * skw dl) (by omega) (by omega), w64 (4 * e) (by omega) (by omega), w64 (skw c + 4 * e) (by omega) (by omega), w64 _ (by omega) (by omega)]
    exact congrArg some (decide_eq_true h1)
  | succ d ih =>
    intro i dl hi hl hv
    rw [show fuel n (d + 1) = (fuel n d + n + 1) + 1 by unfold fuel; rw [Nat.succ_mul]; omega]
    simp only [plaitinglaw12_SyncHolds.l1]
    rw [if_pos (by omega)]
    obtain ⟨v, hr, v0, v1, e1⟩ := holds_l2 es xs c dl e n i he he2 hc h4 h11 (by omega) hcb (by omega) n (fuel n d) 0 [] (by omega) ⟨Nat.le_refl _, by simp [dats], [], by simp [near], by simp [dats]⟩
    refine e1.trans (ih (i + 1) (dl ++ [v]) (by omega) (by simp; omega) fun x hx => ?_)
    rcases List.mem_append.1 hx with hx | hx
    · exact hv x hx
    · obtain rfl := List.mem_singleton.1 hx
      exact ⟨hr, v0, v1⟩
theorem holds_l0 (ns es xs : List Int) (e : Int) (n : Nat) (he : 0 ≤ e) (he2 : e < 30) (h4 : 4 ≤ n) (h11 : n ≤ 11) : ∀ (d i : Nat) (acc : List Int), i + d = n → acc.length = i → (∀ x ∈ acc, -200 ≤ x ∧ x ≤ 200) →
    plaitinglaw12_SyncHolds.l0 (fuel n n + d + 1) ns es xs e n acc i = some true := by
  intro d
  induction d with
  | zero =>
    intro i acc hi hl hb
    rw [Nat.add_zero]
    simp only [plaitinglaw12_SyncHolds.l0]
    rw [if_neg (by omega)]
    exact holds_l1 es xs acc e n he he2 (by omega) h4 h11 hb n 0 [] (by omega) rfl (by simp)
  | succ d ih =>
    intro i acc hi hl hb
    rw [show fuel n n + (d + 1) + 1 = (fuel n n + d + 1) + 1 by omega]
    generalize fuel n n + d + 1 = q at ih ⊢
    simp only [plaitinglaw12_SyncHolds.l0]
    rw [if_pos (by omega)]
    have hmore : ∀ v : Int, -200 ≤ v → v ≤ 200 → plaitinglaw12_SyncHolds.l0 q ns es xs e n (acc ++ [v]) (wrap64 ((i : Int) + 1)) = some true := by
      intro v v0 v1
      rw [w64_succ' i (by omega)]
      refine ih (i + 1) (acc ++ [v]) (by omega) (by simp; omega) fun x hx => ?_
      rcases List.mem_append.1 hx with hx | hx
      · exact hb x hx
      · obtain rfl := List.mem_singleton.1 hx
        exact ⟨v0, v1⟩
    by_cases hin : (i : Int) < (ns.length : Int)
    · obtain ⟨s, hs, s0, s1⟩ := within12 (rd ns i) 401 (by decide) (by decide)
      rw [if_pos hin, if_pos (by omega), hs, Option.bind_some, if_pos (by omega), w64 (s - 200) (by omega) (by omega)]
      exact hmore _ (by omega) (by omega)
    · rw [if_neg hin, if_pos (by omega)]
      exact hmore 0 (by omega) (by omega)
theorem SyncHolds : plaitinglaw12_SyncHolds.Pure := by
  intro l0 l1 l2 a3 a4 _ _ _ _ _ _ _ _ _ _ _
  obtain ⟨n, hn, n0, n1⟩ := within12 a4 8 (by decide) (by decide)
  obtain ⟨e, he, e0, e1⟩ := within12 a3 30 (by decide) (by decide)
  obtain ⟨m, hm⟩ : ∃ m : Nat, 4 + n = (m : Int) := ⟨(4 + n).toNat, by omega⟩
  refine ⟨fuel m m + m + 1, ?_⟩
  unfold plaitinglaw12_SyncHolds.f
  rw [known12, Option.bind_some, if_pos rfl, hn, Option.bind_some, he, Option.bind_some, w64 (4 + n) (by omega) (by omega), hm]
  exact holds_l0 l0 l1 l2 e m e0 e1 (by omega) (by omega) m 0 [] (by omega) rfl (by simp)
end Go.Proofs.Ytegbklmmkamjgaa.Pure
