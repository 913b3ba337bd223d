/- The law SyncSkews, of what the walk has printed: over numbers and lists alone. -/
import Derived.Test.YtegbklmmkamjgaaPCx6
import Derived.Test.YtegbklmmkamjgaaSyncLib
namespace Go.Proofs.Ytegbklmmkamjgaa.Pure
open Go.RowKit Go.Proofs.Ytegbklmmkamjgaa.PC Go.Proofs.YtegbklmmkamjgaaW.PrintWords Go.Proofs.YtegbklmmkamjgaaW.PrintLast Go.Proofs.YtegbklmmkamjgaaW.PrintMore
theorem skews_j1 (l t : List Int) (s : Int) (h : l.length ≤ 1000) (ht : t.length ≤ 1000) (B : Int) (h0 : 0 ≤ B) (hB : B ≤ 1000000000000) (hb : ∀ x ∈ l, -B ≤ x ∧ x ≤ B) (hbt : ∀ x ∈ t, -B ≤ x ∧ x ≤ B) (e : skw t = skw l) (k : Nat) (hk : l.length + 1 < k) :
    plaitinglaw12_SyncSkews.j1 k l t = some true := by
  obtain ⟨k, rfl⟩ : ∃ q, k = q + 1 := ⟨k - 1, by omega⟩
  have hn := skw_nonneg l
  simp only [plaitinglaw12_SyncSkews.j1]
  rw [Skew_eq (by omega) B h0 hB hb, refSkew_eq (by omega) B h0 hB hb k (by omega), Skew_eq (by omega) B h0 hB hbt, e]
  rw [Option.bind_some, Option.bind_some, if_pos rfl, Option.bind_some, if_pos rfl, if_pos hn]
  rfl
theorem skews_l0 (ns : List Int) (a : Int) : ∀ (d k i : Nat) (acc : List Int), i + d = min ns.length 20 → d + 22 < k → acc.length = i → (∀ x ∈ acc, -1073741824 ≤ x ∧ x ≤ 1073741824) →
    plaitinglaw12_SyncSkews.l0 k ns a acc (acc.map (· + Int.tmod a 1073741824)) i = some true := by
  have ha := tmod_range a 1073741824 (by decide)
  intro d
  induction d with
  | zero =>
    intro k i acc hi hk hl hb
    obtain ⟨k, rfl⟩ : ∃ q, k = q + 1 := ⟨k - 1, by omega⟩
    have hj : plaitinglaw12_SyncSkews.j1 k acc (acc.map (· + Int.tmod a 1073741824)) = some true := by
      refine skews_j1 acc _ 0 (by omega) (by rw [List.length_map]; omega) 2147483648 (by decide) (by decide) (fun x hx => ?_) (fun x hx => ?_) (skw_put _ _) k (by omega)
      · have := hb x hx; omega
      · obtain ⟨y, hy, rfl⟩ := List.mem_map.1 hx
        have := hb y hy
        omega
    simp only [plaitinglaw12_SyncSkews.l0]
    by_cases h1 : (i : Int) < (ns.length : Int)
    · rw [if_pos h1, if_neg (by omega), hj]
    · rw [if_neg h1, hj]
  | succ d ih =>
    intro k i acc hi hk hl hb
    obtain ⟨k, rfl⟩ : ∃ q, k = q + 1 := ⟨k - 1, by omega⟩
    have hil : i < ns.length := by omega
    have hx := tmod_range ns[i] 1073741824 (by decide)
    have hrd : rd (acc ++ [Int.tmod ns[i] 1073741824]) (i : Int) = Int.tmod ns[i] 1073741824 := by
      rw [rd_at _ i (by simp; omega)]
      subst hl
      simp
    simp only [plaitinglaw12_SyncSkews.l0]
    rw [if_pos (by omega), if_pos (by omega), if_pos (by omega), if_pos (by omega), rd_at ns i hil, Option.bind_some, if_pos (by rw [List.length_append, List.length_singleton]; omega), if_pos (by rw [List.length_map]; omega), hrd, w64_succ' i (by omega), w64 _ (by omega) (by omega)]
    have := ih k (i + 1) (acc ++ [Int.tmod ns[i] 1073741824]) (by omega) (by omega) (by simp; omega) (fun x hx2 => by
      rcases List.mem_append.1 hx2 with h | h
      · exact hb x h
      · obtain rfl := List.mem_singleton.1 h
        omega)
    rwa [List.map_append] at this
theorem SyncSkews : plaitinglaw12_SyncSkews.Pure := by
  intro l0 a1 _ _ _ _
  refine ⟨100, ?_⟩
  unfold plaitinglaw12_SyncSkews.f
  rw [known12, Option.bind_some, if_pos rfl]
  exact skews_l0 l0 a1 (min l0.length 20) 100 0 [] (by omega) (by omega) rfl (by simp)
end Go.Proofs.Ytegbklmmkamjgaa.Pure
