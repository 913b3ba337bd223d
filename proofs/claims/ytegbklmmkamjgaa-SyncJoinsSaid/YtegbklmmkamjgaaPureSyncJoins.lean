/- The law SyncJoins, of what the walk has printed: over numbers and lists alone. -/
import Derived.Test.YtegbklmmkamjgaaPCx9
import Derived.Test.YtegbklmmkamjgaaSyncLib
namespace Go.Proofs.Ytegbklmmkamjgaa.Pure
open Go.RowKit Go.Proofs.Ytegbklmmkamjgaa.PC Go.Proofs.YtegbklmmkamjgaaW.PrintWords Go.Proofs.YtegbklmmkamjgaaW.PrintLast Go.Proofs.YtegbklmmkamjgaaW.PrintMore
theorem Step_c (nd : Int) (l : List S35) (h : ¬ 1000000 < l.length) (m : Int) (is : Bool) (hm : mid_Mid.f (dats l) = some (m, is)) : sync_Step.f 3 nd l = some (if is = true then m else chosenV (fun n => decide (nd < n)) l) := by
  unfold sync_Step.f
  rw [if_neg h, if_neg (by decide), if_pos rfl, hm]
  rfl
theorem Step_l (nd : Int) (l : List S35) (h : ¬ 1000000 < l.length) : sync_Step.f 1 nd l = some (chosenV (fun _ => false) l) := by
  unfold sync_Step.f
  rw [if_neg h, if_neg (by decide), if_neg (by decide), if_pos rfl]
theorem Step_b (nd : Int) (l : List S35) (h : ¬ 1000000 < l.length) : sync_Step.f 2 nd l = some (chosenV (fun n => decide (nd < n)) l) := by
  unfold sync_Step.f
  rw [if_neg h, if_neg (by decide), if_neg (by decide), if_neg (by decide), if_pos rfl]
theorem dats_all : ∀ l : List S35, (∀ x ∈ l, x.f1 = 3) → dats l = l.map (·.f2)
  | [], _ => rfl
  | x :: l, h => by
    rw [dats, if_pos (h x (by simp)), dats_all l (fun y hy => h y (by simp [hy]))]
    rfl
structure Inv (n : Int) (i : Nat) (acc : List S35) (a z : Int) : Prop where
  len : acc.length = i
  all : ∀ x ∈ acc, x.f1 = 3 ∧ -200000 ≤ x.f2 ∧ x.f2 ≤ 200000
  two : ∃ pre rest, acc = pre ++ rest ∧ rest.length ≤ 1 ∧ (n < 4 ∨ (i : Int) < n → rest = []) ∧ ∀ x ∈ pre, a ≤ x.f2 ∧ x.f2 ≤ z
theorem joins_end (n : Int) (i : Nat) (acc : List S35) (a z : Int) (h : Inv n i acc a z) (hn : (i : Int) = n) (h1 : 1 ≤ n) (h8 : n ≤ 8) (ns : List Int) (x : Int) (k : Nat) : plaitinglaw12_SyncJoins.l0 (k + 1) ns x n acc a z i = some true := by
  have hl := h.len
  have hal := h.all
  obtain ⟨pre, rest, he, hr, _, hp⟩ := h.two
  simp only [plaitinglaw12_SyncJoins.l0]
  rw [if_neg (by omega)]
  have hd : dats acc = acc.map (·.f2) := dats_all acc (fun x hx => (hal x hx).1)
  have hch : ∀ b, chosenV b acc = (rd_T35 acc 0).f2 := by
    intro b
    match acc, hl, hal with
    | [], hl, _ => rw [List.length_nil] at hl; omega
    | x :: l, _, hal => exact chosen_data b x l (hal x (by simp)).1
  have hlen : 0 < (acc.length : Int) := by omega
  by_cases h4 : n < 4
  · rw [Step_c 0 acc (by omega) 0 false (Mid_few (by rw [hd, List.length_map]; omega)), Option.bind_some, if_pos h4, if_pos hlen, if_neg (by decide), hch]
    simp
  · have hlm : (dats acc).length = acc.length := by rw [hd, List.length_map]
    have hb : ∀ v ∈ dats acc, -200000 ≤ v ∧ v ≤ 200000 := by
      intro v hv
      rw [hd] at hv
      obtain ⟨y, hy, rfl⟩ := List.mem_map.1 hv
      exact (hal y hy).2
    have hda : dats acc = pre.map (·.f2) ++ rest.map (·.f2) := by rw [hd, he, List.map_append]
    have hlo : a ≤ lo (dats acc) := by
      rw [lo_iff (by omega), hda, lt_app, lt_zero a (pre.map (·.f2)) (fun v hv => by obtain ⟨y, hy, rfl⟩ := List.mem_map.1 hv; exact (hp y hy).1)]
      have := lt_le a (rest.map (·.f2))
      rw [List.length_map] at this
      omega
    have hhi : hi (dats acc) ≤ z := by
      rw [hi_iff (by omega), hda, gt_app, gt_zero z (pre.map (·.f2)) (fun v hv => by obtain ⟨y, hy, rfl⟩ := List.mem_map.1 hv; exact (hp y hy).2)]
      have : gt_ z (rest.map (·.f2)) ≤ (rest.map (·.f2)).length := List.countP_le_length
      rw [List.length_map] at this
      omega
    have hlh : lo (dats acc) ≤ hi (dats acc) := lo_le_hi (by omega)
    rw [Step_c 0 acc (by omega) _ _ (Mid_some (by omega) (by omega) 200000 (by decide) hb), Option.bind_some, if_neg h4, if_pos rfl, if_pos (by omega), if_pos (by omega), Step_l 0 acc (by omega), Option.bind_some, if_pos hlen, if_pos (hch _), Step_b 20 acc (by omega), Option.bind_some, hch]
    simp
theorem Inv.more {n : Int} {i : Nat} {acc : List S35} {a z : Int} (h : Inv n i acc a z) (hn : n < 4 ∨ (i : Int) < n) (k v : Int) (hv : -200000 ≤ v ∧ v ≤ 200000) : Inv n (i + 1) (acc ++ [⟨k, 3, v⟩]) (mn a v) (mx z v) := by
  obtain ⟨pre, rest, he, hr, hc, hp⟩ := h.two
  have h1 := mn_le a v
  have h2 := mx_ge z v
  obtain rfl := hc hn
  rw [List.append_nil] at he
  subst he
  refine ⟨by simp [h.len], fun x hx => ?_, acc ++ [⟨k, 3, v⟩], [], by simp, by simp, fun _ => rfl, fun x hx => ?_⟩
  · rcases List.mem_append.1 hx with hx | hx
    · exact h.all x hx
    · obtain rfl := List.mem_singleton.1 hx
      exact ⟨rfl, hv⟩
  · rcases List.mem_append.1 hx with hx | hx
    · have := hp x hx
      omega
    · obtain rfl := List.mem_singleton.1 hx
      exact ⟨h1.2.1, h2.2.1⟩
theorem Inv.last {n : Int} {i : Nat} {acc : List S35} {a z : Int} (h : Inv n i acc a z) (hn : (i : Int) + 1 = n) (h4 : 4 ≤ n) (k v : Int) (hv : -200000 ≤ v ∧ v ≤ 200000) : Inv n (i + 1) (acc ++ [⟨k, 3, v⟩]) a z := by
  obtain ⟨pre, rest, he, hr, hc, hp⟩ := h.two
  obtain rfl := hc (by omega)
  rw [List.append_nil] at he
  subst he
  refine ⟨by simp [h.len], fun x hx => ?_, acc, [⟨k, 3, v⟩], rfl, by simp, fun h => by omega, hp⟩
  rcases List.mem_append.1 hx with hx | hx
  · exact h.all x hx
  · obtain rfl := List.mem_singleton.1 hx
    exact ⟨rfl, hv⟩
theorem joins_l0 (ns : List Int) (x n : Int) (h1 : 1 ≤ n) (h8 : n ≤ 8) : ∀ (d k i : Nat) (acc : List S35) (a z : Int), (i : Int) + d = n → d < k → Inv n i acc a z → plaitinglaw12_SyncJoins.l0 k ns x n acc a z i = some true := by
  intro d
  induction d with
  | zero =>
    intro k i acc a z hi hk h
    obtain ⟨k, rfl⟩ : ∃ q, k = q + 1 := ⟨k - 1, by omega⟩
    exact joins_end n i acc a z h (by omega) h1 h8 ns x k
  | succ d ih =>
    intro k i acc a z hi hk h
    obtain ⟨k, rfl⟩ : ∃ q, k = q + 1 := ⟨k - 1, by omega⟩
    have hl := h.len
    have hw : wrap64 (n - 1) = n - 1 := w64 _ (by omega) (by omega)
    obtain ⟨t, ht, t0, t1⟩ := within12 x 200001 (by decide) (by decide)
    simp only [plaitinglaw12_SyncJoins.l0]
    rw [if_pos (by omega), hw, ht]
    by_cases hin : (i : Int) < (ns.length : Int)
    · obtain ⟨s, hs, s0, s1⟩ := within12 (rd ns i) 401 (by decide) (by decide)
      have hm := fun hh => h.more hh (wrap64 (i + 1)) (s - 200) ⟨by omega, by omega⟩
      rw [if_pos hin, if_pos (by omega), hs, Option.bind_some, w64 (s - 200) (by omega) (by omega)]
      by_cases hla : (i : Int) = n - 1
      · rw [if_pos hla]
        by_cases h4 : n ≥ 4
        · rw [if_pos h4, Option.bind_some, if_pos (by omega), w64 (t - 100000) (by omega) (by omega), w64_succ' i (by omega)]
          exact ih k (i + 1) _ _ _ (by omega) (by omega) (h.last (by omega) h4 _ _ ⟨by omega, by omega⟩)
        · rw [if_neg h4, if_pos (by omega)]
          have := hm (by omega)
          rw [w64_succ' i (by omega)] at this ⊢
          exact ih k (i + 1) _ _ _ (by omega) (by omega) this
      · rw [if_neg hla, if_pos (by omega)]
        have := hm (by omega)
        rw [w64_succ' i (by omega)] at this ⊢
        exact ih k (i + 1) _ _ _ (by omega) (by omega) this
    · have hm := fun hh => h.more hh (wrap64 (i + 1)) 0 ⟨by omega, by omega⟩
      rw [if_neg hin]
      by_cases hla : (i : Int) = n - 1
      · rw [if_pos hla]
        by_cases h4 : n ≥ 4
        · rw [if_pos h4, Option.bind_some, if_pos (by omega), w64 (t - 100000) (by omega) (by omega), w64_succ' i (by omega)]
          exact ih k (i + 1) _ _ _ (by omega) (by omega) (h.last (by omega) h4 _ _ ⟨by omega, by omega⟩)
        · rw [if_neg h4, if_pos (by omega)]
          have := hm (by omega)
          rw [w64_succ' i (by omega)] at this ⊢
          exact ih k (i + 1) _ _ _ (by omega) (by omega) this
      · rw [if_neg hla, if_pos (by omega)]
        have := hm (by omega)
        rw [w64_succ' i (by omega)] at this ⊢
        exact ih k (i + 1) _ _ _ (by omega) (by omega) this
theorem SyncJoins : plaitinglaw12_SyncJoins.Pure := by
  intro l0 a1 a2 a3 _ _ _ _ _ _
  refine ⟨100, ?_⟩
  unfold plaitinglaw12_SyncJoins.f
  obtain ⟨n, hn, n0, n1⟩ := within12 a3 8 (by decide) (by decide)
  obtain ⟨e, he, e0, e1⟩ := within12 a1 30 (by decide) (by decide)
  rw [known12, Option.bind_some, if_pos rfl, hn, Option.bind_some, he, Option.bind_some, w64 (1 + n) (by omega) (by omega)]
  exact joins_l0 l0 a2 (1 + n) (by omega) (by omega) (1 + n).toNat 100 0 [] _ _ (by omega) (by omega) ⟨rfl, by simp, [], [], rfl, by simp, fun _ => rfl, by simp⟩
end Go.Proofs.Ytegbklmmkamjgaa.Pure
