-- Written by the session's own program (wip/gen).
import Derived.Test.YtegbklmmkamjgaaPCx0
import Derived.Test.YtegbklmmkamjgaaPCx2
namespace Go.Proofs.Ytegbklmmkamjgaa.PC
open Go.RowKit Go.Proofs.YtegbklmmkamjgaaW.PrintWords Go.Proofs.YtegbklmmkamjgaaW.PrintLast Go.Proofs.YtegbklmmkamjgaaW.PrintMore
attribute [local go_sem] max2_int min2_int max_two min_two max_three min_three max_four min_four   -- for this text's walks alone
set_option linter.unusedVariables false
set_option linter.unusedSimpArgs false

/-! ### sync_Step: function 21 (by hand) -/
/-- Where the first one stands that sent data. -/
def idxGo : List S35 → Int → Int
  | [], _ => -1
  | x :: l, i => if x.f1 = 3 then i else idxGo l (i + 1)
theorem kind_walk (n k d : Int) (w : World) : Calls Try.prog 37 #[.agg #[.int .i64 n, .int .i64 k, .int .i64 d]] w fun e w' => e = .returned (.bool (k == 3)) ∧ Below w.heap.size w w' := by
  go_enter Try.func37, Try.ntmps37
  go_wp2
  go_ret
  exact ⟨rfl, (Below.refl _ w).alloc (Nat.le_refl _) _⟩
theorem rdT_at (l : List S35) (k : Nat) (h : k < l.length) : rd_T35 l (k : Int) = l[k] := by
  unfold rd_T35
  simp [List.getD_eq_getElem?_getD, List.getElem?_eq_getElem h]
set_option maxHeartbeats 1000000 in
theorem index_walk (A0 : Option Addr) (c0 : Nat) (l0 : List S35) (h1 : l0.length ≤ 1000000) (w : World) (hr0 : Kd.C k35 w A0 l0.length l0) :
    Calls Try.prog 36 #[.slice A0 l0.length c0, .func (.func 37) #[] #[]] w fun e w' => e = .returned (.int .i64 (idxGo l0 0)) ∧ Below w.heap.size w w' := by
  have HR := Aside0.mk hr0
  clear hr0
  generalize hr : idxGo l0 0 = r
  go_enter Try.func36, Try.ntmps36
  go_wp2
  go_loopw [8] (fun i w' => ∃ k : Nat, i = .int .i64 k ∧ k ≤ l0.length ∧ idxGo (l0.drop k) k = r ∧ Below w.heap.size w w') (fun i _ => l0.length - (intOf i).toNat)
  case atStart => exact ⟨0, rfl, by omega, hr, Below.refl _ _⟩
  case round =>
    obtain ⟨k, rfl, hk, hm, hB⟩ := hrel
    by_cases hlt : k < l0.length
    · have hp : (0 : Int) ≤ (k : Int) := Int.natCast_nonneg k
      have hq : (k : Int) < (l0.length : Int) := Int.ofNat_lt.2 hlt
      obtain ⟨ad, e, hx0, hx1, hx2⟩ := at_T35 HR.out (k : Int) hp hq
      subst e
      rw [List.drop_eq_getElem_cons hlt, idxGo] at hm
      rw [rdT_at l0 k hlt, Int.toNat_natCast] at hx0 hx1 hx2
      replace hx0 := (hB.cell (World.block_lt_of_cell? w _ hx0)).trans hx0
      replace hx1 := (hB.cell (World.block_lt_of_cell? w _ hx1)).trans hx1
      replace hx2 := (hB.cell (World.block_lt_of_cell? w _ hx2)).trans hx2
      have HC := fun W => kind_walk l0[k].f0 l0[k].f1 l0[k].f2 W
      by_cases h3 : l0[k].f1 = 3
      · rw [if_pos h3] at hm
        have h3' : (l0[k].f1 == 3) = true := beq_iff_eq.2 h3
        rw [h3'] at HC
        have HM := Aside0.mk hm
        clear hm h3 h3'
        generalize l0[k].f0 = y0 at *
        generalize l0[k].f1 = y1 at *
        generalize l0[k].f2 = y2 at *
        go_wp2_with (go_at_call 37; refine (HC _).mono ?_; rintro e W ⟨rfl, hB2⟩)
        go_ret
        exact ⟨by rw [← HM.out]; rfl, hB.trans (hB2.mono hB.size)⟩
      · rw [if_neg h3] at hm
        have h3' : (l0[k].f1 == 3) = false := beq_eq_false_iff_ne.2 h3
        rw [h3'] at HC
        have HM := Aside0.mk hm
        clear hm h3 h3'
        generalize l0[k].f0 = y0 at *
        generalize l0[k].f1 = y1 at *
        generalize l0[k].f2 = y2 at *
        go_wp2_with (go_at_call 37; refine (HC _).mono ?_; rintro e W ⟨rfl, hB2⟩)
        go_roundw
        case rel => exact ⟨k + 1, by simp, by omega, by rw [← HM.out]; rfl, hB.trans (hB2.mono hB.size)⟩
        case measure => simp [intOf]; omega
    · obtain rfl : k = l0.length := by omega
      rw [List.drop_length] at hm
      go_wp2
      go_ret
      exact ⟨by rw [← hm]; rfl, hB⟩
theorem idxGo_lt : ∀ (l : List S35) (i : Int), 0 ≤ i → idxGo l i < i + (l.length : Int)
  | [], i, h => by simp [idxGo]; omega
  | x :: l, i, h => by
    have := idxGo_lt l (i + 1) (by omega)
    rw [idxGo, List.length_cons]
    split <;> omega
/-- Whose clock counts. -/
def chosenV (b : Int → Bool) (l : List S35) : Int :=
  if 0 ≤ idxGo l 0 then (rd_T35 l (idxGo l 0)).f2 else if (l.length : Int) = 0 then 0 else if b (rd_T35 l 0).f0 = true then 0 else (rd_T35 l 0).f2
theorem joins_below (nd n k d : Int) (sv : Value) (w : World) : Calls Try.prog 28 #[.agg #[.int .i64 nd, sv], .agg #[.int .i64 n, .int .i64 k, .int .i64 d]] w fun e w' => e = .returned (.bool (decide (nd < n))) ∧ Below w.heap.size w w' := by
  go_enter Try.func28, Try.ntmps28
  go_wp2
  go_ret
  exact ⟨rfl, ((Below.refl _ w).alloc (Nat.le_refl _) _).alloc (by simp) _⟩
theorem begins_below (nd n k d : Int) (sv : Value) (w : World) : Calls Try.prog 31 #[.agg #[.int .i64 nd, sv], .agg #[.int .i64 n, .int .i64 k, .int .i64 d]] w fun e w' => e = .returned (.bool (decide (nd < n))) ∧ Below w.heap.size w w' := by
  go_enter Try.func31, Try.ntmps31
  go_wp2
  go_ret
  exact ⟨rfl, ((Below.refl _ w).alloc (Nat.le_refl _) _).alloc (by simp) _⟩
set_option maxHeartbeats 1000000 in
theorem chosen_joins (A0 : Option Addr) (c0 : Nat) (l0 : List S35) (h1 : l0.length ≤ 1000000) (nd : Int) (sv : Value) (w : World) (hr0 : Kd.C k35 w A0 l0.length l0) :
    Calls Try.prog 29 #[.slice A0 l0.length c0, .func (.func 28) #[.agg #[.int .i64 nd, sv]] #[]] w fun e w' => e = .returned (.int .i64 (chosenV (fun n => decide (nd < n)) l0)) ∧ Below w.heap.size w w' := by
  have HI := index_walk A0 c0 l0 h1 w hr0
  have hlt := idxGo_lt l0 0 (by omega)
  have HC := fun y0 y1 y2 W => joins_below nd y0 y1 y2 sv W
  generalize hv : chosenV (fun n => decide (nd < n)) l0 = v
  unfold chosenV at hv
  generalize idxGo l0 0 = i at HI hlt hv
  have HR := Aside0.mk hr0
  clear hr0
  by_cases hi : 0 ≤ i
  · rw [if_pos hi] at hv
    have hd : decide (0 ≤ i) = true := decide_eq_true hi
    obtain ⟨ad, e, hx0, hx1, hx2⟩ := at_T35 HR.out i hi (by omega)
    subst e
    have hlt' : i < (l0.length : Int) := by omega
    rw [hv] at hx2
    clear hx0 hx1 HC
    have hq := eq_true hlt'
    go_enter Try.func29, Try.ntmps29
    go_wp2_with (go_at_call 36; refine HI.mono ?_; rintro e W ⟨rfl, hB⟩; have hz2 := (hB.cell (World.block_lt_of_cell? w _ hx2)).trans hx2)
    go_ret
    exact ⟨rfl, hB⟩
  · rw [if_neg hi] at hv
    have hd : decide (0 ≤ i) = false := decide_eq_false hi
    by_cases h0 : (l0.length : Int) = 0
    · rw [if_pos h0] at hv
      subst hv
      have hd2 : ((l0.length : Int) == 0) = true := beq_iff_eq.2 h0
      clear HC
      go_enter Try.func29, Try.ntmps29
      go_wp2_with (go_at_call 36; refine HI.mono ?_; rintro e W ⟨rfl, hB⟩)
      go_ret
      exact ⟨rfl, hB⟩
    · rw [if_neg h0] at hv
      have hd2 : ((l0.length : Int) == 0) = false := beq_eq_false_iff_ne.2 h0
      have hlen : (0 : Int) < (l0.length : Int) := by omega
      obtain ⟨ad, e, hx0, hx1, hx2⟩ := at_T35 HR.out 0 (by omega) hlen
      subst e
      simp only [Int.toNat_zero, Nat.zero_mul, Addr.add_zero'] at hx0 hx1 hx2
      have HC := HC (rd_T35 l0 0).f0 (rd_T35 l0 0).f1 (rd_T35 l0 0).f2
      have hlen2 : 0 < l0.length := by omega
      by_cases hb : (fun n => decide (nd < n)) (rd_T35 l0 0).f0 = true
      · rw [if_pos hb] at hv
        subst hv
        simp only [hb] at HC
        go_enter Try.func29, Try.ntmps29
        go_wp2_with (first
          | (go_at_call 36; refine HI.mono ?_; rintro e W ⟨rfl, hB⟩; have hz0 := (hB.cell (World.block_lt_of_cell? w _ hx0)).trans hx0; have hz1 := (hB.cell (World.block_lt_of_cell? w _ hx1)).trans hx1; have hz2 := (hB.cell (World.block_lt_of_cell? w _ hx2)).trans hx2)
          | (go_at_call 28; refine (HC _).mono ?_; rintro e W2 ⟨rfl, hB2⟩))
        go_ret
        exact ⟨rfl, hB.trans (hB2.mono hB.size)⟩
      · rw [if_neg hb] at hv
        subst hv
        have hb' := Bool.eq_false_iff.2 hb
        simp only [hb'] at HC
        go_enter Try.func29, Try.ntmps29
        go_wp2_with (first
          | (go_at_call 36; refine HI.mono ?_; rintro e W ⟨rfl, hB⟩; have hz0 := (hB.cell (World.block_lt_of_cell? w _ hx0)).trans hx0; have hz1 := (hB.cell (World.block_lt_of_cell? w _ hx1)).trans hx1; have hz2 := (hB.cell (World.block_lt_of_cell? w _ hx2)).trans hx2)
          | (go_at_call 28; refine (HC _).mono ?_; rintro e W2 ⟨rfl, hB2⟩; have ht2 := (hB2.cell (World.block_lt_of_cell? W _ hz2)).trans hz2))
        go_ret
        exact ⟨rfl, hB.trans (hB2.mono hB.size)⟩
set_option maxHeartbeats 1000000 in
theorem chosen_begins (A0 : Option Addr) (c0 : Nat) (l0 : List S35) (h1 : l0.length ≤ 1000000) (nd : Int) (sv : Value) (w : World) (hr0 : Kd.C k35 w A0 l0.length l0) :
    Calls Try.prog 29 #[.slice A0 l0.length c0, .func (.func 31) #[.agg #[.int .i64 nd, sv]] #[]] w fun e w' => e = .returned (.int .i64 (chosenV (fun n => decide (nd < n)) l0)) ∧ Below w.heap.size w w' := by
  have HI := index_walk A0 c0 l0 h1 w hr0
  have hlt := idxGo_lt l0 0 (by omega)
  have HC := fun y0 y1 y2 W => begins_below nd y0 y1 y2 sv W
  generalize hv : chosenV (fun n => decide (nd < n)) l0 = v
  unfold chosenV at hv
  generalize idxGo l0 0 = i at HI hlt hv
  have HR := Aside0.mk hr0
  clear hr0
  by_cases hi : 0 ≤ i
  · rw [if_pos hi] at hv
    have hd : decide (0 ≤ i) = true := decide_eq_true hi
    obtain ⟨ad, e, hx0, hx1, hx2⟩ := at_T35 HR.out i hi (by omega)
    subst e
    have hlt' : i < (l0.length : Int) := by omega
    rw [hv] at hx2
    clear hx0 hx1 HC
    have hq := eq_true hlt'
    go_enter Try.func29, Try.ntmps29
    go_wp2_with (go_at_call 36; refine HI.mono ?_; rintro e W ⟨rfl, hB⟩; have hz2 := (hB.cell (World.block_lt_of_cell? w _ hx2)).trans hx2)
    go_ret
    exact ⟨rfl, hB⟩
  · rw [if_neg hi] at hv
    have hd : decide (0 ≤ i) = false := decide_eq_false hi
    by_cases h0 : (l0.length : Int) = 0
    · rw [if_pos h0] at hv
      subst hv
      have hd2 : ((l0.length : Int) == 0) = true := beq_iff_eq.2 h0
      clear HC
      go_enter Try.func29, Try.ntmps29
      go_wp2_with (go_at_call 36; refine HI.mono ?_; rintro e W ⟨rfl, hB⟩)
      go_ret
      exact ⟨rfl, hB⟩
    · rw [if_neg h0] at hv
      have hd2 : ((l0.length : Int) == 0) = false := beq_eq_false_iff_ne.2 h0
      have hlen : (0 : Int) < (l0.length : Int) := by omega
      obtain ⟨ad, e, hx0, hx1, hx2⟩ := at_T35 HR.out 0 (by omega) hlen
      subst e
      simp only [Int.toNat_zero, Nat.zero_mul, Addr.add_zero'] at hx0 hx1 hx2
      have HC := HC (rd_T35 l0 0).f0 (rd_T35 l0 0).f1 (rd_T35 l0 0).f2
      have hlen2 : 0 < l0.length := by omega
      by_cases hb : (fun n => decide (nd < n)) (rd_T35 l0 0).f0 = true
      · rw [if_pos hb] at hv
        subst hv
        simp only [hb] at HC
        go_enter Try.func29, Try.ntmps29
        go_wp2_with (first
          | (go_at_call 36; refine HI.mono ?_; rintro e W ⟨rfl, hB⟩; have hz0 := (hB.cell (World.block_lt_of_cell? w _ hx0)).trans hx0; have hz1 := (hB.cell (World.block_lt_of_cell? w _ hx1)).trans hx1; have hz2 := (hB.cell (World.block_lt_of_cell? w _ hx2)).trans hx2)
          | (go_at_call 31; refine (HC _).mono ?_; rintro e W2 ⟨rfl, hB2⟩))
        go_ret
        exact ⟨rfl, hB.trans (hB2.mono hB.size)⟩
      · rw [if_neg hb] at hv
        subst hv
        have hb' := Bool.eq_false_iff.2 hb
        simp only [hb'] at HC
        go_enter Try.func29, Try.ntmps29
        go_wp2_with (first
          | (go_at_call 36; refine HI.mono ?_; rintro e W ⟨rfl, hB⟩; have hz0 := (hB.cell (World.block_lt_of_cell? w _ hx0)).trans hx0; have hz1 := (hB.cell (World.block_lt_of_cell? w _ hx1)).trans hx1; have hz2 := (hB.cell (World.block_lt_of_cell? w _ hx2)).trans hx2)
          | (go_at_call 31; refine (HC _).mono ?_; rintro e W2 ⟨rfl, hB2⟩; have ht2 := (hB2.cell (World.block_lt_of_cell? W _ hz2)).trans hz2))
        go_ret
        exact ⟨rfl, hB.trans (hB2.mono hB.size)⟩
set_option maxHeartbeats 1000000 in
theorem chosen_never (A0 : Option Addr) (c0 : Nat) (l0 : List S35) (h1 : l0.length ≤ 1000000) (nd : Int) (sv : Value) (w : World) (hr0 : Kd.C k35 w A0 l0.length l0) :
    Calls Try.prog 29 #[.slice A0 l0.length c0, .func (.func 30) #[] #[]] w fun e w' => e = .returned (.int .i64 (chosenV (fun _ => false) l0)) ∧ Below w.heap.size w w' := by
  have HI := index_walk A0 c0 l0 h1 w hr0
  have hlt := idxGo_lt l0 0 (by omega)
  have HC := fun y0 y1 y2 W => sync_never.calls y0 y1 y2 false W rfl
  generalize hv : chosenV (fun _ => false) l0 = v
  unfold chosenV at hv
  generalize idxGo l0 0 = i at HI hlt hv
  have HR := Aside0.mk hr0
  clear hr0
  by_cases hi : 0 ≤ i
  · rw [if_pos hi] at hv
    have hd : decide (0 ≤ i) = true := decide_eq_true hi
    obtain ⟨ad, e, hx0, hx1, hx2⟩ := at_T35 HR.out i hi (by omega)
    subst e
    have hlt' : i < (l0.length : Int) := by omega
    rw [hv] at hx2
    clear hx0 hx1 HC
    have hq := eq_true hlt'
    go_enter Try.func29, Try.ntmps29
    go_wp2_with (go_at_call 36; refine HI.mono ?_; rintro e W ⟨rfl, hB⟩; have hz2 := (hB.cell (World.block_lt_of_cell? w _ hx2)).trans hx2)
    go_ret
    exact ⟨rfl, hB⟩
  · rw [if_neg hi] at hv
    have hd : decide (0 ≤ i) = false := decide_eq_false hi
    by_cases h0 : (l0.length : Int) = 0
    · rw [if_pos h0] at hv
      subst hv
      have hd2 : ((l0.length : Int) == 0) = true := beq_iff_eq.2 h0
      clear HC
      go_enter Try.func29, Try.ntmps29
      go_wp2_with (go_at_call 36; refine HI.mono ?_; rintro e W ⟨rfl, hB⟩)
      go_ret
      exact ⟨rfl, hB⟩
    · rw [if_neg h0] at hv
      have hd2 : ((l0.length : Int) == 0) = false := beq_eq_false_iff_ne.2 h0
      have hlen : (0 : Int) < (l0.length : Int) := by omega
      obtain ⟨ad, e, hx0, hx1, hx2⟩ := at_T35 HR.out 0 (by omega) hlen
      subst e
      simp only [Int.toNat_zero, Nat.zero_mul, Addr.add_zero'] at hx0 hx1 hx2
      have HC := HC (rd_T35 l0 0).f0 (rd_T35 l0 0).f1 (rd_T35 l0 0).f2
      have hlen2 : 0 < l0.length := by omega
      by_cases hb : (fun _ => false) (rd_T35 l0 0).f0 = true
      · rw [if_pos hb] at hv
        exact absurd hb (by simp)
      · rw [if_neg hb] at hv
        subst hv
        go_enter Try.func29, Try.ntmps29
        go_wp2_with (first
          | (go_at_call 36; refine HI.mono ?_; rintro e W ⟨rfl, hB⟩; have hz0 := (hB.cell (World.block_lt_of_cell? w _ hx0)).trans hx0; have hz1 := (hB.cell (World.block_lt_of_cell? w _ hx1)).trans hx1; have hz2 := (hB.cell (World.block_lt_of_cell? w _ hx2)).trans hx2)
          | (go_at_call 30; refine (HC _).mono ?_; rintro e W2 ⟨rfl, hB2⟩; have ht2 := (hB2.cell (World.block_lt_of_cell? W _ hz2)).trans hz2))
        go_ret
        exact ⟨rfl, hB.trans (hB2.mono hB.size)⟩
theorem of_4 (nd : Int) (A : Option Addr) (n c : Nat) (w : World) : Calls Try.prog 26 #[.int .i64 4, .int .i64 nd, .slice A n c] w fun e w' => e = .returned (.iface 46 (.agg #[.slice A n c])) ∧ w' = w := by
  go_enter Try.func26, Try.ntmps26
  go_wp2
  go_ret
  exact ⟨rfl, rfl⟩
theorem of_3 (nd : Int) (A : Option Addr) (n c : Nat) (w : World) : Calls Try.prog 26 #[.int .i64 3, .int .i64 nd, .slice A n c] w fun e w' => e = .returned (.iface 49 (.agg #[.int .i64 nd, .slice A n c])) ∧ w' = w := by
  go_enter Try.func26, Try.ntmps26
  go_wp2
  go_ret
  exact ⟨rfl, rfl⟩
theorem of_1 (nd : Int) (A : Option Addr) (n c : Nat) (w : World) : Calls Try.prog 26 #[.int .i64 1, .int .i64 nd, .slice A n c] w fun e w' => e = .returned (.iface 52 (.agg #[.slice A n c])) ∧ w' = w := by
  go_enter Try.func26, Try.ntmps26
  go_wp2
  go_ret
  exact ⟨rfl, rfl⟩
theorem of_2 (nd : Int) (A : Option Addr) (n c : Nat) (w : World) : Calls Try.prog 26 #[.int .i64 2, .int .i64 nd, .slice A n c] w fun e w' => e = .returned (.iface 53 (.agg #[.int .i64 nd, .slice A n c])) ∧ w' = w := by
  go_enter Try.func26, Try.ntmps26
  go_wp2
  go_ret
  exact ⟨rfl, rfl⟩
theorem of_no (st nd : Int) (A : Option Addr) (n c : Nat) (h4 : st ≠ 4) (h3 : st ≠ 3) (h1 : st ≠ 1) (h2 : st ≠ 2) (w : World) : Calls Try.prog 26 #[.int .i64 st, .int .i64 nd, .slice A n c] w fun e w' => e = .returned .nilIface ∧ w' = w := by
  have d4 : (st == 4) = false := beq_eq_false_iff_ne.2 h4
  have d3 : (st == 3) = false := beq_eq_false_iff_ne.2 h3
  have d1 : (st == 1) = false := beq_eq_false_iff_ne.2 h1
  have d2 : (st == 2) = false := beq_eq_false_iff_ne.2 h2
  clear h4 h3 h1 h2
  go_enter Try.func26, Try.ntmps26
  go_wp2
  go_ret
  exact ⟨rfl, rfl⟩
/-- How far those are ahead that sent data. -/
def dats : List S35 → List Int
  | [] => []
  | x :: l => if x.f1 = 3 then x.f2 :: dats l else dats l
theorem data_l0 (l : List S35) (h1 : l.length ≤ 1000000) : ∀ (d k i : Nat) (acc : List Int), i + d = l.length → d < k → acc.length ≤ i → sync_data.l0 k acc l (l.length : Int) i = some (acc ++ dats (l.drop i)) := by
  intro d
  induction d with
  | zero =>
    intro k i acc hi hk ha
    obtain ⟨k, rfl⟩ : ∃ q, k = q + 1 := ⟨k - 1, by omega⟩
    obtain rfl : i = l.length := by omega
    simp only [sync_data.l0]
    rw [if_neg (by omega), List.drop_length]
    simp [dats]
  | succ d ih =>
    intro k i acc hi hk ha
    obtain ⟨k, rfl⟩ : ∃ q, k = q + 1 := ⟨k - 1, by omega⟩
    have hil : i < l.length := by omega
    have e : wrap64 ((i : Int) + 1) = ((i + 1 : Nat) : Int) := by
      unfold wrap64
      omega
    rw [List.drop_eq_getElem_cons hil, dats]
    simp only [sync_data.l0]
    rw [if_pos (by omega), if_pos (by omega), if_pos (by omega), rdT_at l i hil, e]
    by_cases h3 : l[i].f1 = 3
    · rw [if_pos h3, if_pos h3, if_pos (by omega), ih k (i + 1) _ (by omega) (by omega) (by simp; omega)]
      simp
    · rw [if_neg h3, if_neg h3, ih k (i + 1) acc (by omega) (by omega) (by omega)]
theorem data_f (l : List S35) (h1 : l.length ≤ 1000000) : sync_data.f (l.length + 1) l = some (dats l) := by
  have := data_l0 l h1 l.length (l.length + 1) 0 [] (by omega) (by omega) (by simp)
  simpa [sync_data.f] using this
theorem dats_len : ∀ l : List S35, (dats l).length ≤ l.length
  | [] => by simp [dats]
  | x :: l => by
    have := dats_len l
    rw [dats, List.length_cons]
    split
    · rw [List.length_cons]; omega
    · omega
/-- By how much a clock is put on. -/
def sync_Step.f (st nd : Int) (l : List S35) : Option Int :=
  if 1000000 < l.length then none
  else if st = 4 then (mid_Mid.f (dats l ++ [0])).map (fun p => p.1)
  else if st = 3 then (mid_Mid.f (dats l)).map (fun p => if p.2 = true then p.1 else chosenV (fun n => decide (nd < n)) l)
  else if st = 1 then some (chosenV (fun _ => false) l)
  else if st = 2 then some (chosenV (fun n => decide (nd < n)) l)
  else some 0
theorem as_4_4 (v : Value) (W : World) : (Instr.typeAssert (.iface 46 v) 20 46 true).run Try.prog W = .ok (.tuple #[v, .bool true]) W := by kernel_rfl
theorem as_3_4 (v : Value) (W : World) : (Instr.typeAssert (.iface 49 v) 20 46 true).run Try.prog W = .ok (.tuple #[.agg #[.slice none 0 0], .bool false]) W := by kernel_rfl
theorem as_3_3 (v : Value) (W : World) : (Instr.typeAssert (.iface 49 v) 20 49 true).run Try.prog W = .ok (.tuple #[v, .bool true]) W := by kernel_rfl
theorem as_1_4 (v : Value) (W : World) : (Instr.typeAssert (.iface 52 v) 20 46 true).run Try.prog W = .ok (.tuple #[.agg #[.slice none 0 0], .bool false]) W := by kernel_rfl
theorem as_1_3 (v : Value) (W : World) : (Instr.typeAssert (.iface 52 v) 20 49 true).run Try.prog W = .ok (.tuple #[.agg #[.int .i64 0, .slice none 0 0], .bool false]) W := by kernel_rfl
theorem as_1_1 (v : Value) (W : World) : (Instr.typeAssert (.iface 52 v) 20 52 true).run Try.prog W = .ok (.tuple #[v, .bool true]) W := by kernel_rfl
theorem as_2_4 (v : Value) (W : World) : (Instr.typeAssert (.iface 53 v) 20 46 true).run Try.prog W = .ok (.tuple #[.agg #[.slice none 0 0], .bool false]) W := by kernel_rfl
theorem as_2_3 (v : Value) (W : World) : (Instr.typeAssert (.iface 53 v) 20 49 true).run Try.prog W = .ok (.tuple #[.agg #[.int .i64 0, .slice none 0 0], .bool false]) W := by kernel_rfl
theorem as_2_1 (v : Value) (W : World) : (Instr.typeAssert (.iface 53 v) 20 52 true).run Try.prog W = .ok (.tuple #[.agg #[.slice none 0 0], .bool false]) W := by kernel_rfl
theorem as_2_2 (v : Value) (W : World) : (Instr.typeAssert (.iface 53 v) 20 53 true).run Try.prog W = .ok (.tuple #[v, .bool true]) W := by kernel_rfl
theorem as_no_4 (W : World) : (Instr.typeAssert .nilIface 20 46 true).run Try.prog W = .ok (.tuple #[.agg #[.slice none 0 0], .bool false]) W := by kernel_rfl
theorem as_no_3 (W : World) : (Instr.typeAssert .nilIface 20 49 true).run Try.prog W = .ok (.tuple #[.agg #[.int .i64 0, .slice none 0 0], .bool false]) W := by kernel_rfl
theorem as_no_1 (W : World) : (Instr.typeAssert .nilIface 20 52 true).run Try.prog W = .ok (.tuple #[.agg #[.slice none 0 0], .bool false]) W := by kernel_rfl
theorem as_no_2 (W : World) : (Instr.typeAssert .nilIface 20 53 true).run Try.prog W = .ok (.tuple #[.agg #[.int .i64 0, .slice none 0 0], .bool false]) W := by kernel_rfl
set_option maxHeartbeats 1000000 in
theorem step_1 (nd : Int) (A0 : Option Addr) (c0 : Nat) (l0 : List S35) (h1 : l0.length ≤ 1000000) (w : World) (hr0 : Kd.C k35 w A0 l0.length l0) :
    Calls Try.prog 21 #[.int .i64 1, .int .i64 nd, .slice A0 l0.length c0] w fun e w' => e = .returned (.int .i64 (chosenV (fun _ => false) l0)) ∧ Below w.heap.size w w' := by
  have ta4 := as_1_4
  have ta3 := as_1_3
  have ta1 := as_1_1
  go_enter Try.func21, Try.ntmps21
  go_wp2_with (first
    | (go_at_call 26; refine (of_1 nd A0 l0.length c0 _).mono ?_; rintro e w' ⟨rfl, rfl⟩)
    | (go_at_call 29; refine (chosen_never A0 c0 l0 h1 nd (.slice A0 l0.length c0) _ (Kd.C_below hr0 (by repeat (first | exact Below.refl _ _ | exact HB.out | refine Below.alloc ?_ (by simp) _ | refine Below.setCell ?_ (by simp) _)))).mono ?_; rintro e W ⟨rfl, hB⟩))
  go_ret
  refine ⟨rfl, Below.trans ?_ (hB.mono (by simp))⟩
  repeat (first | exact Below.refl _ _ | refine Below.alloc ?_ (by simp) _ | refine Below.setCell ?_ (by simp) _)
set_option maxHeartbeats 1000000 in
theorem step_2 (nd : Int) (A0 : Option Addr) (c0 : Nat) (l0 : List S35) (h1 : l0.length ≤ 1000000) (w : World) (hr0 : Kd.C k35 w A0 l0.length l0) :
    Calls Try.prog 21 #[.int .i64 2, .int .i64 nd, .slice A0 l0.length c0] w fun e w' => e = .returned (.int .i64 (chosenV (fun n => decide (nd < n)) l0)) ∧ Below w.heap.size w w' := by
  have ta4 := as_2_4
  have ta3 := as_2_3
  have ta1 := as_2_1
  have ta2 := as_2_2
  go_enter Try.func21, Try.ntmps21
  go_wp2_with (first
    | (go_at_call 26; refine (of_2 nd A0 l0.length c0 _).mono ?_; rintro e w' ⟨rfl, rfl⟩)
    | (go_at_call 29; refine (chosen_begins A0 c0 l0 h1 nd (.slice A0 l0.length c0) _ (Kd.C_below hr0 (by repeat (first | exact Below.refl _ _ | exact HB.out | refine Below.alloc ?_ (by simp) _ | refine Below.setCell ?_ (by simp) _)))).mono ?_; rintro e W ⟨rfl, hB⟩))
  go_ret
  refine ⟨rfl, Below.trans ?_ (hB.mono (by simp))⟩
  repeat (first | exact Below.refl _ _ | refine Below.alloc ?_ (by simp) _ | refine Below.setCell ?_ (by simp) _)
set_option maxHeartbeats 1000000 in
theorem step_3 (nd : Int) (A0 : Option Addr) (c0 : Nat) (l0 : List S35) (h1 : l0.length ≤ 1000000) (hc0 : l0.length ≤ c0) (m : Int) (is : Bool) (hM : mid_Mid.f (dats l0) = some (m, is)) (w : World) (hr0 : Kd.C k35 w A0 l0.length l0) :
    Calls Try.prog 21 #[.int .i64 3, .int .i64 nd, .slice A0 l0.length c0] w fun e w' => e = .returned (.int .i64 (if is = true then m else chosenV (fun n => decide (nd < n)) l0)) ∧ Below w.heap.size w w' := by
  have ta4 := as_3_4
  have ta3 := as_3_3
  have HD := data_f l0 h1
  cases is
  · rw [if_neg (by decide)]
    go_enter Try.func21, Try.ntmps21
    go_wp2_with (first
      | (go_at_call 26; refine (of_3 nd A0 l0.length c0 _).mono ?_; rintro e w' ⟨rfl, rfl⟩)
      | (go_at_call 27; refine (sync_data.calls (l0.length + 1) A0 c0 l0 (dats l0) _ (Kd.C_below hr0 (by repeat (first | exact Below.refl _ _ | exact HB.out | refine Below.alloc ?_ (by simp) _ | refine Below.setCell ?_ (by simp) _))) hc0 HD).mono ?_; rintro e W ⟨u, rfl, hR, hB⟩; obtain ⟨A, c, rfl, hcap, hC⟩ := Kd.R_reads hR)
      | (go_at_call 17; refine (mid_Mid.calls A c (dats l0) m false _ hC hcap hM).mono ?_; rintro e W2 ⟨rfl, hB2⟩; have hBB := hB.trans (hB2.mono hB.size); have hB0 := ((Below.refl w'.heap.size w').alloc (Nat.le_refl _) (.cells #[.int .i64 nd, .slice A0 l0.length c0] 49)).trans (hBB.mono (by simp)); have z0 := (hBB.cell (p := ⟨w'.heap.size, 0, none⟩) (by simp)).trans (show _ = some (.int .i64 nd) by unfold World.cell?; rw [World.alloc_heap_new]; rfl); have z1 := (hBB.cell (p := ⟨w'.heap.size, 1, none⟩) (by simp)).trans (show _ = some (.slice A0 l0.length c0) by unfold World.cell?; rw [World.alloc_heap_new]; rfl))
      | (go_at_call 29; refine (chosen_joins A0 c0 l0 h1 nd (.slice A0 l0.length c0) _ (Kd.C_below hr0 hB0)).mono ?_; rintro e W3 ⟨rfl, hB3⟩))
    go_ret
    exact ⟨rfl, hB0.trans (hB3.mono hB0.size)⟩
  · rw [if_pos rfl]
    go_enter Try.func21, Try.ntmps21
    go_wp2_with (first
      | (go_at_call 26; refine (of_3 nd A0 l0.length c0 _).mono ?_; rintro e w' ⟨rfl, rfl⟩)
      | (go_at_call 27; refine (sync_data.calls (l0.length + 1) A0 c0 l0 (dats l0) _ (Kd.C_below hr0 (by repeat (first | exact Below.refl _ _ | exact HB.out | refine Below.alloc ?_ (by simp) _ | refine Below.setCell ?_ (by simp) _))) hc0 HD).mono ?_; rintro e W ⟨u, rfl, hR, hB⟩; obtain ⟨A, c, rfl, hcap, hC⟩ := Kd.R_reads hR)
      | (go_at_call 17; refine (mid_Mid.calls A c (dats l0) m true _ hC hcap hM).mono ?_; rintro e W2 ⟨rfl, hB2⟩; have hBB := hB.trans (hB2.mono hB.size); have hB0 := ((Below.refl w'.heap.size w').alloc (Nat.le_refl _) (.cells #[.int .i64 nd, .slice A0 l0.length c0] 49)).trans (hBB.mono (by simp)); have z0 := (hBB.cell (p := ⟨w'.heap.size, 0, none⟩) (by simp)).trans (show _ = some (.int .i64 nd) by unfold World.cell?; rw [World.alloc_heap_new]; rfl); have z1 := (hBB.cell (p := ⟨w'.heap.size, 1, none⟩) (by simp)).trans (show _ = some (.slice A0 l0.length c0) by unfold World.cell?; rw [World.alloc_heap_new]; rfl))
      | (go_at_call 29; refine (chosen_joins A0 c0 l0 h1 nd (.slice A0 l0.length c0) _ (Kd.C_below hr0 hB0)).mono ?_; rintro e W3 ⟨rfl, hB3⟩))
    go_ret
    exact ⟨rfl, hB0⟩
set_option maxHeartbeats 1000000 in
theorem step_4 (nd : Int) (A0 : Option Addr) (c0 : Nat) (l0 : List S35) (h1 : l0.length ≤ 1000000) (hc0 : l0.length ≤ c0) (m : Int) (is : Bool) (hM : mid_Mid.f (dats l0 ++ [0]) = some (m, is)) (w : World) (hr0 : Kd.C k35 w A0 l0.length l0) :
    Calls Try.prog 21 #[.int .i64 4, .int .i64 nd, .slice A0 l0.length c0] w fun e w' => e = .returned (.int .i64 m) ∧ Below w.heap.size w w' := by
  have ta4 := as_4_4
  have HD := data_f l0 h1
  have hL : (dats l0).length ≤ 1000000 := Nat.le_trans (dats_len l0) h1
  generalize dats l0 = ds at *
  generalize hes : ds ++ [0] = es at hM
  go_enter Try.func21, Try.ntmps21
  go_wp2_with (first
    | (go_at_call 26; refine (of_4 nd A0 l0.length c0 _).mono ?_; rintro e w' ⟨rfl, rfl⟩)
    | (go_at_call 27; refine (sync_data.calls (l0.length + 1) A0 c0 l0 (ds) _ (Kd.C_below hr0 (by repeat (first | exact Below.refl _ _ | exact HB.out | refine Below.alloc ?_ (by simp) _ | refine Below.setCell ?_ (by simp) _))) hc0 HD).mono ?_; rintro e W ⟨u, rfl, hR, hB⟩)
    | ((with_reducible refine gate_builtin (b := .append) (xs := #[.tmp 27, .tmp 28]) rfl ?_); at_builtin; refine Kd.R_append (Kd.int .i64) (w0 := w'.alloc (.cells #[.slice A0 l0.length c0] 46)) (w'.alloc (.cells #[.slice A0 l0.length c0] 46)).heap.size rfl (.tmp 27) (.tmp 28) 22 3 (.int .i64 0) 8 rfl Try.underlying22 info3 rfl (by decide) (by omega) u (ds) 0 [.int .i64 0] (fun _ => True) (fun _ => False) rfl rfl ?aP (fun _ hk => hk.elim) (fun _ _ => trivial) hR hB hB.size (by omega) ?_; (case aP => exact rfl); intro v1 w1 ho hb hg hat; clear hg hat hR; rw [hes] at ho; obtain ⟨A, c, rfl, hcap, hC⟩ := Kd.R_reads ho; clear ho; have hB1 := Aside0.mk hb; clear hb hB; have hC1 := Aside0.mk hC; have hcap1 := Aside0.mk hcap; clear hC hcap)
    | (go_at_call 17; refine (mid_Mid.calls A c es m is _ hC1.out hcap1.out hM).mono ?_; rintro e W2 ⟨rfl, hB2⟩; have hBB := Aside0.mk (hB1.out.trans (hB2.mono hB1.out.size)); clear hB1 hB2 hC1 hcap1))
  go_ret
  exact ⟨rfl, ((Below.refl w'.heap.size w').alloc (Nat.le_refl _) _).trans (hBB.out.mono (by simp))⟩
set_option maxHeartbeats 1000000 in
theorem step_no (st nd : Int) (A0 : Option Addr) (c0 : Nat) (l0 : List S35) (h4 : st ≠ 4) (h3 : st ≠ 3) (h1 : st ≠ 1) (h2 : st ≠ 2) (w : World) :
    Calls Try.prog 21 #[.int .i64 st, .int .i64 nd, .slice A0 l0.length c0] w fun e w' => e = .returned (.int .i64 0) ∧ Below w.heap.size w w' := by
  have ta4 := as_no_4
  have ta3 := as_no_3
  have ta1 := as_no_1
  have ta2 := as_no_2
  go_enter Try.func21, Try.ntmps21
  go_wp2_with (go_at_call 26; refine (of_no st nd A0 l0.length c0 h4 h3 h1 h2 _).mono ?_; rintro e w' ⟨rfl, rfl⟩)
  go_ret
  refine ⟨rfl, ?_⟩
  repeat (first | exact Below.refl _ _ | refine Below.alloc ?_ (by simp) _ | refine Below.setCell ?_ (by simp) _)
theorem sync_Step.calls (a0 a1 : Int) (A2 : Option Addr) (c2 : Nat) (l2 : List S35) (r : Int) (w : World) (hr2 : Kd.C k35 w A2 l2.length l2) (hc2 : l2.length ≤ c2) (h : sync_Step.f a0 a1 l2 = some r) :
    Calls Try.prog 21 #[.int .i64 a0, .int .i64 a1, .slice A2 l2.length c2] w fun e w' => e = .returned (.int .i64 r) ∧ Below w.heap.size w w' := by
  unfold sync_Step.f at h
  by_cases hl : 1000000 < l2.length
  · rw [if_pos hl] at h
    exact absurd h (by simp)
  rw [if_neg hl] at h
  have h1 : l2.length ≤ 1000000 := by omega
  by_cases e4 : a0 = 4
  · subst e4
    rw [if_pos rfl] at h
    obtain ⟨⟨m, is⟩, hM, rfl⟩ := Option.map_eq_some_iff.1 h
    exact step_4 a1 A2 c2 l2 h1 hc2 m is hM w hr2
  rw [if_neg e4] at h
  by_cases e3 : a0 = 3
  · subst e3
    rw [if_pos rfl] at h
    obtain ⟨⟨m, is⟩, hM, rfl⟩ := Option.map_eq_some_iff.1 h
    exact step_3 a1 A2 c2 l2 h1 hc2 m is hM w hr2
  rw [if_neg e3] at h
  by_cases e1 : a0 = 1
  · subst e1
    rw [if_pos rfl] at h
    obtain rfl := Option.some.inj h
    exact step_1 a1 A2 c2 l2 h1 w hr2
  rw [if_neg e1] at h
  by_cases e2 : a0 = 2
  · subst e2
    rw [if_pos rfl] at h
    obtain rfl := Option.some.inj h
    exact step_2 a1 A2 c2 l2 h1 w hr2
  rw [if_neg e2] at h
  obtain rfl := Option.some.inj h
  exact step_no a0 a1 A2 c2 l2 e4 e3 e1 e2 w

end Go.Proofs.Ytegbklmmkamjgaa.PC
