/- One line of a script, ahead of any network. -/
import Derived.Test.YtoamchhmehpgoaaGreatDoorVerbs
import Derived.Test.YtoamchhmehpgoaaGreatDoorPSJx5
import Derived.Laws.EntriesVeiled
namespace Go.Proofs.YtoamchhmehpgoaaGreatDoor.PSJ
open Go Go.RowKit Go.Proofs.YtoamchhmehpgoaaGreatDoorW.PrintWords Go.Proofs.YtoamchhmehpgoaaGreatDoorW.PrintLast Go.Proofs.YtoamchhmehpgoaaGreatDoorW.PrintMore
attribute [local go_sem] max2_int min2_int max_two min_two max_three min_three max_four min_four
set_option linter.unusedVariables false
set_option linter.unusedSimpArgs false
/-- All words but the first one, as they lie in memory. -/
theorem words_rest {W : World} {cap : Nat} {w0 : ByteArray} {ws : List ByteArray} (ad : Addr) (h : Kd.C Kd.string W (some ad) (w0 :: ws).length (w0 :: ws)) (hcap : (w0 :: ws).length ≤ cap) :
    ∃ ad1, (if cap = 1 then some ad else some (⟨ad.block, ad.off + 1, none⟩ : Addr)) = some ad1 ∧ ∀ (j : Nat) s, ws[j]? = some s → W.cell? (ad1.add j) = some (.string s) := by
  by_cases hc : cap = 1
  · refine ⟨ad, if_pos hc, fun j s hj => ?_⟩
    have h1 : ws.length = 0 := by simp at hcap; omega
    have h2 := (List.getElem?_eq_some_iff.1 hj).1
    omega
  · refine ⟨_, if_neg hc, fun j s hj => ?_⟩
    have hlt := (List.getElem?_eq_some_iff.1 hj).1
    obtain ⟨ad', e, hcell⟩ := Kd.at_string h ((j + 1 : Nat) : Int) (by omega) (by simp; omega)
    obtain rfl := Option.some.inj e
    have hr : rdOf ByteArray.empty (w0 :: ws) ((j + 1 : Nat) : Int) = s := by
      unfold rdOf
      simp [hj]
    rw [hr] at hcell
    have ha : (⟨ad.block, ad.off + 1, none⟩ : Addr).add j = ad.add ((j + 1 : Nat) : Int).toNat := by
      rw [Int.toNat_natCast]
      unfold Addr.add
      rw [if_neg (show ¬ j + 1 = 0 by omega)]
      split
      · rename_i h0
        subst h0
        rfl
      · simp only [Addr.mk.injEq, and_true, true_and]
        omega
    rw [ha]
    exact hcell
set_option maxHeartbeats 4000000 in
set_option maxRecDepth 100000 in
theorem line_up (g r p0 p1 q0 q1 : Nat) (c : Cf) (hc : c.pairs = []) (w : World) (hS : Scr g r p0 p1 q0 q1 c w) :
    Calls Tryz.prog 15 #[.pointer (some ⟨g, 0, none⟩), .string ⟨#[117, 112]⟩] w fun e w' => e = .returned (.string ⟨#[110, 111, 110, 101]⟩) ∧ Scr g r p0 p1 q0 q1 c w' ∧ Kp (fun k => k = g) w w' := by
  have KW := fun W => shell_Words.calls 120 ⟨#[117, 112]⟩ [(⟨#[117, 112]⟩ : ByteArray)] 0 W (by kernel_rfl)
  have hdec : ∀ pos, pos < (⟨#[]⟩ : ByteArray).size → Utf8.decode ⟨#[]⟩ pos = (110, 1) := fun pos h => by
    have h' : pos < 0 := h
    omega
  have hnum : ∀ (j : Nat) s x, ([] : List ByteArray)[j]? = some s → ([] : List Int)[j]? = some x → ∀ W, Calls Tryz.prog 40 #[.string s] W fun e w' => e = .returned (.tuple #[.int .i64 x, .bool true]) ∧ Below W.heap.size W w' := fun j s x hs hx W => by
    simp at hs
  have KS := fun ad c W hw => split_nums ⟨#[]⟩ ([] : List ByteArray) ([] : List Int) rfl (by decide) rfl hdec hnum ad c W hw
  go_enter Tryz.func15, Tryz.ntmps15
  go_wp2_with (first
    | (go_at_call 6; ((with_reducible refine (KW _).mono ?_); rintro e W1 ⟨v, rfl, hR, hb⟩; have S1 := hS.below hb; have B1 := Aside0.mk hb; obtain ⟨A, cap, rfl⟩ := Kd.R_slice hR; have C1 := (Kd.R_reads' hR).2.2; obtain ⟨ad, rfl, x0⟩ := Kd.at_string C1 0 (by decide) (by decide); have HC1 := Aside0.mk C1; have HR1 := Aside0.mk hR; clear hb hR C1))
    | (go_at_call 21; (with_reducible refine (err_say 9 _ say_word _).mono ?_); rintro e w' ⟨rfl, hb⟩))
  have hlk : ∀ W', W'.heap[r]? = some (.map (verbs g p0 p1 q0 q1) 6) → (Instr.lookup 52 (.map (some r)) (.string ⟨#[117, 112]⟩) true).run Tryz.prog W' = .ok (.tuple #[.agg #[.string ⟨#[]⟩, .func (.func 39) #[.pointer (some ⟨g, 0, none⟩)] #[]], .bool true]) W' := fun W' h => look_run 52 9 59 r 6 _ ⟨#[117, 112]⟩ 5 _ Tryz.underlying52 Tryz.underlying9 h (by rfl)
  have y7 : W1.cell? ⟨g, 7, none⟩ = some (.map (some r)) := (blk_cell S1.own 7).trans rfl
  have z0 : W1.cell? ad = some (.string ⟨#[117, 112]⟩) := by
    exact (congrArg _ (show ad = ad.add (Int.toNat 0) from by cases ad; rfl)).trans x0
  have hS0 : (fun w' => w'.cell? ⟨g, 7, none⟩ = some (.map (some r)) ∧ w'.cell? ad = some (.string ⟨#[117, 112]⟩) ∧ (Instr.lookup 52 (.map (some r)) (.string ⟨#[117, 112]⟩) true).run Tryz.prog w' = .ok (.tuple #[.agg #[.string ⟨#[]⟩, .func (.func 39) #[.pointer (some ⟨g, 0, none⟩)] #[]], .bool true]) w') W1.drew := ⟨y7, z0, hlk W1.drew S1.map⟩
  refine start_ (n := 14) (S := fun w' => w'.cell? ⟨g, 7, none⟩ = some (.map (some r)) ∧ w'.cell? ad = some (.string ⟨#[117, 112]⟩) ∧ (Instr.lookup 52 (.map (some r)) (.string ⟨#[117, 112]⟩) true).run Tryz.prog w' = .ok (.tuple #[.agg #[.string ⟨#[]⟩, .func (.func 39) #[.pointer (some ⟨g, 0, none⟩)] #[]], .bool true]) w') (ds := [12]) #[false, false, false, false, false, false, false, false, false, false, false, false, false, false] (by kernel_rfl) rfl rfl ?st0 (fun hHeld => ?_)
  case st0 => exact hS0
  refine pure_ (i := 0) (N := some 25) (v := ?_) (a' := ?_) #[true, false, false, false, false, false, false, false, false, false, false, false, false, false] rfl rfl (by kernel_rfl) (fun _ _ _ h => h) (Or.inl ⟨by rfl, ?_⟩) ?_ ?_
  rotate_left
  · intro w'
    go_simp
    (try with_reducible rfl)
  rotate_left
  · simp only [Act.put, List.setIfInBounds_toArray, List.set_cons_zero, List.set_cons_succ, i64_w, i32_w]
    rfl
  refine pure_ (i := 1) (N := some 26) (v := ?_) (a' := ?_) #[true, true, false, false, false, false, false, false, false, false, false, false, false, false] rfl rfl (by kernel_rfl) (fun _ _ _ h => h) (Or.inl ⟨by rfl, ?_⟩) ?_ ?_
  rotate_left
  · intro w'
    go_simp
    (try with_reducible rfl)
  rotate_left
  · simp only [Act.put, List.setIfInBounds_toArray, List.set_cons_zero, List.set_cons_succ, i64_w, i32_w]
    rfl
  refine pure_ (i := 2) (N := some 27) (v := ?_) (a' := ?_) #[true, true, true, false, false, false, false, false, false, false, false, false, false, false] rfl rfl (by kernel_rfl) (fun _ _ _ h => h) (Or.inl ⟨by rfl, ?_⟩) ?_ ?_
  rotate_left
  · intro w'
    go_simp
    (try with_reducible rfl)
  rotate_left
  · simp only [Act.put, List.setIfInBounds_toArray, List.set_cons_zero, List.set_cons_succ, i64_w, i32_w]
    rfl
  refine take_ (i := 3) (N := some 28) (v := ?_) (a' := ?_) #[true, true, true, true, false, false, false, false, false, false, false, false, false, false] rfl rfl (by kernel_rfl) (fun _ _ _ h => h) (Or.inl ⟨by rfl, ?_⟩) hHeld ?_ ?_
  rotate_left
  · rintro w' ⟨s0, s1, s2⟩
    go_simp
    (try with_reducible rfl)
  rotate_left
  · simp only [Act.put, List.setIfInBounds_toArray, List.set_cons_zero, List.set_cons_succ, i64_w, i32_w]
    rfl
  refine pure_ (i := 4) (N := some 29) (v := ?_) (a' := ?_) #[true, true, true, true, true, false, false, false, false, false, false, false, false, false] rfl rfl (by kernel_rfl) (fun _ _ _ h => h) (Or.inl ⟨by rfl, ?_⟩) ?_ ?_
  rotate_left
  · intro w'
    go_simp
    (try with_reducible rfl)
  rotate_left
  · simp only [Act.put, List.setIfInBounds_toArray, List.set_cons_zero, List.set_cons_succ, i64_w, i32_w]
    rfl
  refine pure_ (i := 5) (N := some 30) (v := ?_) (a' := ?_) #[true, true, true, true, true, true, false, false, false, false, false, false, false, false] rfl rfl (by kernel_rfl) (fun _ _ _ h => h) (Or.inl ⟨by rfl, ?_⟩) ?_ ?_
  rotate_left
  · intro w'
    go_simp
    (try with_reducible rfl)
  rotate_left
  · simp only [Act.put, List.setIfInBounds_toArray, List.set_cons_zero, List.set_cons_succ, i64_w, i32_w]
    rfl
  refine take_ (i := 6) (N := some 31) (v := ?_) (a' := ?_) #[true, true, true, true, true, true, true, false, false, false, false, false, false, false] rfl rfl (by kernel_rfl) (fun _ _ _ h => h) (Or.inl ⟨by rfl, ?_⟩) hHeld ?_ ?_
  rotate_left
  · rintro w' ⟨s0, s1, s2⟩
    go_simp
    (try with_reducible rfl)
  rotate_left
  · simp only [Act.put, List.setIfInBounds_toArray, List.set_cons_zero, List.set_cons_succ, i64_w, i32_w]
    rfl
  refine take_ (i := 7) (N := some 32) (v := ?_) (a' := ?_) #[true, true, true, true, true, true, true, true, false, false, false, false, false, false] rfl rfl (by kernel_rfl) (fun _ _ _ h => h) (Or.inl ⟨by rfl, ?_⟩) hHeld ?_ ?_
  rotate_left
  · rintro w' ⟨s0, s1, s2⟩
    go_simp
    (try with_reducible rfl)
  rotate_left
  · simp only [Act.put, List.setIfInBounds_toArray, List.set_cons_zero, List.set_cons_succ, i64_w, i32_w]
    rfl
  refine pure_ (i := 8) (N := some 24) (v := ?_) (a' := ?_) #[true, true, true, true, true, true, true, true, true, false, false, false, false, false] rfl rfl (by kernel_rfl) (fun _ _ _ h => h) (Or.inl ⟨by rfl, ?_⟩) ?_ ?_
  rotate_left
  · intro w'
    go_simp
    (try with_reducible rfl)
  rotate_left
  · simp only [Act.put, List.setIfInBounds_toArray, List.set_cons_zero, List.set_cons_succ, i64_w, i32_w]
    rfl
  refine pure_ (i := 9) (N := some 33) (v := ?_) (a' := ?_) #[true, true, true, true, true, true, true, true, true, true, false, false, false, false] rfl rfl (by kernel_rfl) (fun _ _ _ h => h) (Or.inl ⟨by rfl, ?_⟩) ?_ ?_
  rotate_left
  · intro w'
    go_simp
    (try with_reducible rfl)
  rotate_left
  · simp only [Act.put, List.setIfInBounds_toArray, List.set_cons_zero, List.set_cons_succ, i64_w, i32_w]
    rfl
  refine pure_ (i := 10) (N := some 34) (v := ?_) (a' := ?_) #[true, true, true, true, true, true, true, true, true, true, true, false, false, false] rfl rfl (by kernel_rfl) (fun _ _ _ h => h) (Or.inl ⟨by rfl, ?_⟩) ?_ ?_
  rotate_left
  · intro w'
    go_simp
    (try with_reducible rfl)
  rotate_left
  · simp only [Act.put, List.setIfInBounds_toArray, List.set_cons_zero, List.set_cons_succ, i64_w, i32_w]
    rfl
  refine one_ (i := 11) (N := some 7) #[true, true, true, true, true, true, true, true, true, true, true, true, false, false] rfl rfl (by kernel_rfl) (by decide) (fun K hK => ?_)
  refine value_ (v := .pointer (some ⟨W1.heap.size, 0, none⟩)) (w1 := W1.drew.alloc (.cells #[.string ⟨#[]⟩, .nilFunc] 59)) (by rfl) rfl ?_ ?_
  · go_simp
    (try rfl)
  have N2 : (W1.drew.alloc (.cells #[.string ⟨#[]⟩, .nilFunc] 59)).heap[W1.heap.size]? = some (.cells #[.string ⟨#[]⟩, .nilFunc] 59) := blk_new W1.drew _
  have Q2 : Below W1.heap.size W1 (W1.drew.alloc (.cells #[.string ⟨#[]⟩, .nilFunc] 59)) := (below_drew (Below.refl _ _)).alloc (Nat.le_refl _) _
  have S2 := S1.below Q2
  have y72 : (W1.drew.alloc (.cells #[.string ⟨#[]⟩, .nilFunc] 59)).cell? ⟨g, 7, none⟩ = some (.map (some r)) := (blk_cell S2.own 7).trans rfl
  have z02 := (Q2.cell (World.block_lt_of_cell? _ _ z0)).trans z0
  have l2 := hlk _ S2.map
  generalize W1.drew.alloc (.cells #[.string ⟨#[]⟩, .nilFunc] 59) = W2 at N2 Q2 S2 y72 z02 l2 ⊢
  refine hK.out _ _ (⟨y72, z02, l2⟩) (fun hHeld => ?_)
  clear hK K
  refine norm_ (a' := ?_) ?_ ?_
  rotate_left
  · show Act.put _ (some 7) _ = _
    simp only [Act.put, List.setIfInBounds_toArray, List.set_cons_zero, List.set_cons_succ, i64_w, i32_w]
    rfl
  refine last_ (i := 12) (N := none) #[true, true, true, true, true, true, true, true, true, true, true, true, true, false] rfl rfl (by kernel_rfl) (by decide) (fun K hK => ?_)
  have n0 : W2.cell? ⟨W1.heap.size, 0, none⟩ = some (.string ⟨#[]⟩) := (blk_cell N2 0).trans rfl
  have f0 := blk_frozen N2 0
  have N3 := blk_set N2 0 (.string ⟨#[]⟩)
  have n1 : (W2.setCell ⟨W1.heap.size, 0, none⟩ (.string ⟨#[]⟩)).cell? ⟨W1.heap.size, 1, none⟩ = some .nilFunc := (blk_cell N3 1).trans rfl
  have f1 := blk_frozen N3 1
  have N4 : ((W2.setCell ⟨W1.heap.size, 0, none⟩ (.string ⟨#[]⟩)).setCell ⟨W1.heap.size, 1, none⟩ (.func (.func 39) #[.pointer (some ⟨g, 0, none⟩)] #[])).heap[W1.heap.size]? = some (.cells #[.string ⟨#[]⟩, .func (.func 39) #[.pointer (some ⟨g, 0, none⟩)] #[]] 59 (0, 0)) := blk_set N3 1 _
  have Q4 : Below W1.heap.size W1 ((W2.setCell ⟨W1.heap.size, 0, none⟩ (.string ⟨#[]⟩)).setCell ⟨W1.heap.size, 1, none⟩ (.func (.func 39) #[.pointer (some ⟨g, 0, none⟩)] #[])) := (Q2.setCell (Nat.le_refl _) _).setCell (Nat.le_refl _) _
  refine skip_ (w1 := (W2.setCell ⟨W1.heap.size, 0, none⟩ (.string ⟨#[]⟩)).setCell ⟨W1.heap.size, 1, none⟩ (.func (.func 39) #[.pointer (some ⟨g, 0, none⟩)] #[])) (by rfl) rfl ?_ ?_
  · go_simp
    (try rfl)
  clear n0 f0 n1 f1 N3
  generalize (W2.setCell ⟨W1.heap.size, 0, none⟩ (.string ⟨#[]⟩)).setCell ⟨W1.heap.size, 1, none⟩ (.func (.func 39) #[.pointer (some ⟨g, 0, none⟩)] #[]) = W4 at N4 Q4 ⊢
  refine hK.out _ _ ?_
  clear hK K
  refine pure_ (i := 13) (N := some 8) (v := ?_) (a' := ?_) #[true, true, true, true, true, true, true, true, true, true, true, true, true, true] rfl rfl (by kernel_rfl) (fun _ _ _ h => h) (Or.inl ⟨by rfl, ?_⟩) ?_ ?_
  rotate_left
  · intro w'
    go_simp
    (try with_reducible rfl)
  rotate_left
  · simp only [Act.put, List.setIfInBounds_toArray, List.set_cons_zero, List.set_cons_succ, i64_w, i32_w]
    rfl
  refine done_ (by kernel_rfl) ?_
  go_wp2
  obtain ⟨ad1, hA1, hX1⟩ := words_rest ad HC1.out (Kd.R_reads' HR1.out).2.1
  have S4 := S1.below Q4
  have x4 : W4.cell? ⟨W1.heap.size, 0, none⟩ = some (.string ⟨#[]⟩) := (blk_cell N4 0).trans rfl
  have hS7 : (fun w' => w'.cell? ⟨W1.heap.size, 0, none⟩ = some (.string ⟨#[]⟩)) W4.drew := x4
  refine start_ (n := 12) (S := fun w' => w'.cell? ⟨W1.heap.size, 0, none⟩ = some (.string ⟨#[]⟩)) (ds := []) #[false, false, false, false, false, false, false, false, false, false, false, false] (by kernel_rfl) rfl rfl ?st0 (fun hHeld => ?_)
  case st0 => exact hS7
  refine pure_ (i := 0) (N := some 36) (v := ?_) (a' := ?_) #[true, false, false, false, false, false, false, false, false, false, false, false] rfl rfl (by kernel_rfl) (fun _ _ _ h => h) (Or.inl ⟨by rfl, ?_⟩) ?_ ?_
  rotate_left
  · intro w'
    go_simp
    (try with_reducible rfl)
  rotate_left
  · simp only [Act.put, List.setIfInBounds_toArray, List.set_cons_zero, List.set_cons_succ, i64_w, i32_w]
    rfl
  refine pure_ (i := 1) (N := some 37) (v := ?_) (a' := ?_) #[true, true, false, false, false, false, false, false, false, false, false, false] rfl rfl (by kernel_rfl) (fun _ _ _ h => h) (Or.inl ⟨by rfl, ?_⟩) ?_ ?_
  rotate_left
  · intro w'
    go_simp
    (try with_reducible rfl)
  rotate_left
  · simp only [Act.put, List.setIfInBounds_toArray, List.set_cons_zero, List.set_cons_succ, i64_w, i32_w]
    rfl
  refine pure_ (i := 2) (N := some 38) (v := ?_) (a' := ?_) #[true, true, true, false, false, false, false, false, false, false, false, false] rfl rfl (by kernel_rfl) (fun _ _ _ h => h) (Or.inl ⟨by rfl, ?_⟩) ?_ ?_
  rotate_left
  · intro w'
    go_simp
    (try with_reducible rfl)
  rotate_left
  · simp only [Act.put, List.setIfInBounds_toArray, List.set_cons_zero, List.set_cons_succ, i64_w, i32_w]
    rfl
  refine take_ (i := 3) (N := some 39) (v := ?_) (a' := ?_) #[true, true, true, true, false, false, false, false, false, false, false, false] rfl rfl (by kernel_rfl) (fun _ _ _ h => h) (Or.inl ⟨by rfl, ?_⟩) hHeld ?_ ?_
  rotate_left
  · rintro w' s0
    go_simp
    (try with_reducible rfl)
  rotate_left
  · simp only [Act.put, List.setIfInBounds_toArray, List.set_cons_zero, List.set_cons_succ, i64_w, i32_w]
    rfl
  refine one_ (i := 4) (N := some 40) #[true, true, true, true, true, false, false, false, false, false, false, false] rfl rfl (by kernel_rfl) (by decide) (fun K hK => ?_)
  refine goes_ Tryz.func22 (by kernel_rfl) rfl #[.slice (some ad1) 0 (cap - 1), .string ⟨#[]⟩] (by rfl) rfl rfl (by (try simp only [List.map_toArray, List.map_cons, List.map_nil]); first | done | rfl) ?_
  refine (KS _ _ W4.drew ?hw).mono ?_
  case hw => exact fun j s hj => ((below_drew Q4).cell (World.block_lt_of_cell? _ _ (hX1 j s hj))).trans (hX1 j s hj)
  rintro e W5 ⟨v5, rfl, hR5, hb5⟩
  have S5 := S4.below (b_tr (below_drew (Below.refl _ _)) hb5)
  refine ⟨_, rfl, ?_⟩
  refine hK.out _ _ ((hb5.cell (blk_lt N4)).trans x4) (fun hHeld => ?_)
  clear hK K
  refine norm_ (a' := ?_) ?_ ?_
  rotate_left
  · show Act.put _ (some 40) _ = _
    simp only [Act.put, List.setIfInBounds_toArray, List.set_cons_zero, List.set_cons_succ, i64_w, i32_w]
    rfl
  refine pure_ (i := 5) (N := some 35) (v := ?_) (a' := ?_) #[true, true, true, true, true, true, false, false, false, false, false, false] rfl rfl (by kernel_rfl) (fun _ _ _ h => h) (Or.inl ⟨by rfl, ?_⟩) ?_ ?_
  rotate_left
  · intro w'
    go_simp
    (try with_reducible rfl)
  rotate_left
  · simp only [Act.put, List.setIfInBounds_toArray, List.set_cons_zero, List.set_cons_succ, i64_w, i32_w]
    rfl
  refine pure_ (i := 6) (N := some 41) (v := ?_) (a' := ?_) #[true, true, true, true, true, true, true, false, false, false, false, false] rfl rfl (by kernel_rfl) (fun _ _ _ h => h) (Or.inl ⟨by rfl, ?_⟩) ?_ ?_
  rotate_left
  · intro w'
    go_simp
    (try with_reducible rfl)
  rotate_left
  · simp only [Act.put, List.setIfInBounds_toArray, List.set_cons_zero, List.set_cons_succ, i64_w, i32_w]
    rfl
  refine pure_ (i := 7) (N := some 42) (v := ?_) (a' := ?_) #[true, true, true, true, true, true, true, true, false, false, false, false] rfl rfl (by kernel_rfl) (fun _ _ _ h => h) (Or.inl ⟨by rfl, ?_⟩) ?_ ?_
  rotate_left
  · intro w'
    go_simp
    (try with_reducible rfl)
  rotate_left
  · simp only [Act.put, List.setIfInBounds_toArray, List.set_cons_zero, List.set_cons_succ, i64_w, i32_w]
    rfl
  refine pure_ (i := 8) (N := some 43) (v := ?_) (a' := ?_) #[true, true, true, true, true, true, true, true, true, false, false, false] rfl rfl (by kernel_rfl) (fun _ _ _ h => h) (Or.inl ⟨by rfl, ?_⟩) ?_ ?_
  rotate_left
  · intro w'
    go_simp
    (try with_reducible rfl)
  rotate_left
  · simp only [Act.put, List.setIfInBounds_toArray, List.set_cons_zero, List.set_cons_succ, i64_w, i32_w]
    rfl
  refine pure_ (i := 9) (N := some 9) (v := ?_) (a' := ?_) #[true, true, true, true, true, true, true, true, true, true, false, false] rfl rfl (by kernel_rfl) (fun _ _ _ h => h) (Or.inl ⟨by rfl, ?_⟩) ?_ ?_
  rotate_left
  · intro w'
    go_simp
    (try with_reducible rfl)
  rotate_left
  · simp only [Act.put, List.setIfInBounds_toArray, List.set_cons_zero, List.set_cons_succ, i64_w, i32_w]
    rfl
  refine pure_ (i := 10) (N := some 10) (v := ?_) (a' := ?_) #[true, true, true, true, true, true, true, true, true, true, true, false] rfl rfl (by kernel_rfl) (fun _ _ _ h => h) (Or.inl ⟨by rfl, ?_⟩) ?_ ?_
  rotate_left
  · intro w'
    go_simp
    (try with_reducible rfl)
  rotate_left
  · simp only [Act.put, List.setIfInBounds_toArray, List.set_cons_zero, List.set_cons_succ, i64_w, i32_w]
    rfl
  refine pure_ (i := 11) (N := some 11) (v := ?_) (a' := ?_) #[true, true, true, true, true, true, true, true, true, true, true, true] rfl rfl (by kernel_rfl) (fun _ _ _ h => h) (Or.inl ⟨by rfl, ?_⟩) ?_ ?_
  rotate_left
  · intro w'
    go_simp
    (try with_reducible rfl)
  rotate_left
  · simp only [Act.put, List.setIfInBounds_toArray, List.set_cons_zero, List.set_cons_succ, i64_w, i32_w]
    rfl
  refine done_ (by kernel_rfl) ?_
  have x5 : W5.cell? ⟨W1.heap.size, 1, none⟩ = some (.func (.func 39) #[.pointer (some ⟨g, 0, none⟩)] #[]) := (hb5.cell (blk_lt N4)).trans ((blk_cell N4 1).trans rfl)
  have B5 := Aside0.mk (b_tr (b_tr B1.out Q4) (b_tr (below_drew (Below.refl _ _)) hb5))
  have y6 : W5.cell? ⟨g, 6, none⟩ = some (.pointer none) := (blk_cell S5.own 6).trans rfl
  go_wp2_with (first
    | (go_at_call 39; (with_reducible refine (up_says g _ _ _ y6).mono ?_); rintro e w' ⟨rfl, hb⟩)
    | (go_at_call 21; (with_reducible refine (err_say 9 _ say_word _).mono ?_); rintro e w' ⟨rfl, hb⟩))
  go_ret
  exact ⟨rfl, S5.below hb, Kp.of (b_tr B5.out hb)⟩
set_option maxHeartbeats 4000000 in
set_option maxRecDepth 100000 in
theorem line_conf (g r p0 p1 q0 q1 : Nat) (c : Cf) (hc : c.pairs = []) (w : World) (hS : Scr g r p0 p1 q0 q1 c w) :
    Calls Tryz.prog 15 #[.pointer (some ⟨g, 0, none⟩), .string ⟨#[99, 111, 110, 102, 32, 54, 32, 53, 48, 32, 49, 32, 49, 32, 48]⟩] w fun e w' => e = .returned (.string ⟨#[111, 107]⟩) ∧ Scr g r p0 p1 q0 q1 ⟨6, 50, 1, 1, 0, []⟩ w' ∧ Kp (fun k => k = g) w w' := by
  have KW := fun W => shell_Words.calls 120 ⟨#[99, 111, 110, 102, 32, 54, 32, 53, 48, 32, 49, 32, 49, 32, 48]⟩ [(⟨#[99, 111, 110, 102]⟩ : ByteArray), (⟨#[54]⟩ : ByteArray), (⟨#[53, 48]⟩ : ByteArray), (⟨#[49]⟩ : ByteArray), (⟨#[49]⟩ : ByteArray), (⟨#[48]⟩ : ByteArray)] 0 W (by kernel_rfl)
  have hdec : ∀ pos, pos < (⟨#[110, 110, 110, 110, 110]⟩ : ByteArray).size → Utf8.decode ⟨#[110, 110, 110, 110, 110]⟩ pos = (110, 1) := fun pos h => by
    have h' : pos < 5 := h
    match pos, h' with
    | 0, _ => rfl
    | 1, _ => rfl
    | 2, _ => rfl
    | 3, _ => rfl
    | 4, _ => rfl
    | q + 5, hq => exact absurd hq (by omega)
  have hnum : ∀ (j : Nat) s x, ([⟨#[54]⟩, ⟨#[53, 48]⟩, ⟨#[49]⟩, ⟨#[49]⟩, ⟨#[48]⟩] : List ByteArray)[j]? = some s → ([6, 50, 1, 1, 0] : List Int)[j]? = some x → ∀ W, Calls Tryz.prog 40 #[.string s] W fun e w' => e = .returned (.tuple #[.int .i64 x, .bool true]) ∧ Below W.heap.size W w' := fun j s x hs hx W => by
    match j, hs, hx with
    | 0, hs, hx =>
      obtain rfl := Option.some.inj hs
      obtain rfl := Option.some.inj hx
      exact number_6 W
    | 1, hs, hx =>
      obtain rfl := Option.some.inj hs
      obtain rfl := Option.some.inj hx
      exact number_50 W
    | 2, hs, hx =>
      obtain rfl := Option.some.inj hs
      obtain rfl := Option.some.inj hx
      exact number_1 W
    | 3, hs, hx =>
      obtain rfl := Option.some.inj hs
      obtain rfl := Option.some.inj hx
      exact number_1 W
    | 4, hs, hx =>
      obtain rfl := Option.some.inj hs
      obtain rfl := Option.some.inj hx
      exact number_0 W
    | q + 5, hs, _ => simp at hs
  have KS := fun ad c W hw => split_nums ⟨#[110, 110, 110, 110, 110]⟩ ([⟨#[54]⟩, ⟨#[53, 48]⟩, ⟨#[49]⟩, ⟨#[49]⟩, ⟨#[48]⟩] : List ByteArray) ([6, 50, 1, 1, 0] : List Int) rfl (by decide) rfl hdec hnum ad c W hw
  go_enter Tryz.func15, Tryz.ntmps15
  go_wp2_with (first
    | (go_at_call 6; ((with_reducible refine (KW _).mono ?_); rintro e W1 ⟨v, rfl, hR, hb⟩; have S1 := hS.below hb; have B1 := Aside0.mk hb; obtain ⟨A, cap, rfl⟩ := Kd.R_slice hR; have C1 := (Kd.R_reads' hR).2.2; obtain ⟨ad, rfl, x0⟩ := Kd.at_string C1 0 (by decide) (by decide); have HC1 := Aside0.mk C1; have HR1 := Aside0.mk hR; clear hb hR C1))
    | (go_at_call 21; (with_reducible refine (err_say 9 _ say_word _).mono ?_); rintro e w' ⟨rfl, hb⟩))
  have hlk : ∀ W', W'.heap[r]? = some (.map (verbs g p0 p1 q0 q1) 6) → (Instr.lookup 52 (.map (some r)) (.string ⟨#[99, 111, 110, 102]⟩) true).run Tryz.prog W' = .ok (.tuple #[.agg #[.string ⟨#[110, 110, 110, 110, 110]⟩, .func (.func 33) #[.pointer (some ⟨g, 0, none⟩)] #[]], .bool true]) W' := fun W' h => look_run 52 9 59 r 6 _ ⟨#[99, 111, 110, 102]⟩ 0 _ Tryz.underlying52 Tryz.underlying9 h (by rfl)
  have y7 : W1.cell? ⟨g, 7, none⟩ = some (.map (some r)) := (blk_cell S1.own 7).trans rfl
  have z0 : W1.cell? ad = some (.string ⟨#[99, 111, 110, 102]⟩) := by
    exact (congrArg _ (show ad = ad.add (Int.toNat 0) from by cases ad; rfl)).trans x0
  have hS0 : (fun w' => w'.cell? ⟨g, 7, none⟩ = some (.map (some r)) ∧ w'.cell? ad = some (.string ⟨#[99, 111, 110, 102]⟩) ∧ (Instr.lookup 52 (.map (some r)) (.string ⟨#[99, 111, 110, 102]⟩) true).run Tryz.prog w' = .ok (.tuple #[.agg #[.string ⟨#[110, 110, 110, 110, 110]⟩, .func (.func 33) #[.pointer (some ⟨g, 0, none⟩)] #[]], .bool true]) w') W1.drew := ⟨y7, z0, hlk W1.drew S1.map⟩
  refine start_ (n := 14) (S := fun w' => w'.cell? ⟨g, 7, none⟩ = some (.map (some r)) ∧ w'.cell? ad = some (.string ⟨#[99, 111, 110, 102]⟩) ∧ (Instr.lookup 52 (.map (some r)) (.string ⟨#[99, 111, 110, 102]⟩) true).run Tryz.prog w' = .ok (.tuple #[.agg #[.string ⟨#[110, 110, 110, 110, 110]⟩, .func (.func 33) #[.pointer (some ⟨g, 0, none⟩)] #[]], .bool true]) w') (ds := [12]) #[false, false, false, false, false, false, false, false, false, false, false, false, false, false] (by kernel_rfl) rfl rfl ?st0 (fun hHeld => ?_)
  case st0 => exact hS0
  refine pure_ (i := 0) (N := some 25) (v := ?_) (a' := ?_) #[true, false, false, false, false, false, false, false, false, false, false, false, false, false] rfl rfl (by kernel_rfl) (fun _ _ _ h => h) (Or.inl ⟨by rfl, ?_⟩) ?_ ?_
  rotate_left
  · intro w'
    go_simp
    (try with_reducible rfl)
  rotate_left
  · simp only [Act.put, List.setIfInBounds_toArray, List.set_cons_zero, List.set_cons_succ, i64_w, i32_w]
    rfl
  refine pure_ (i := 1) (N := some 26) (v := ?_) (a' := ?_) #[true, true, false, false, false, false, false, false, false, false, false, false, false, false] rfl rfl (by kernel_rfl) (fun _ _ _ h => h) (Or.inl ⟨by rfl, ?_⟩) ?_ ?_
  rotate_left
  · intro w'
    go_simp
    (try with_reducible rfl)
  rotate_left
  · simp only [Act.put, List.setIfInBounds_toArray, List.set_cons_zero, List.set_cons_succ, i64_w, i32_w]
    rfl
  refine pure_ (i := 2) (N := some 27) (v := ?_) (a' := ?_) #[true, true, true, false, false, false, false, false, false, false, false, false, false, false] rfl rfl (by kernel_rfl) (fun _ _ _ h => h) (Or.inl ⟨by rfl, ?_⟩) ?_ ?_
  rotate_left
  · intro w'
    go_simp
    (try with_reducible rfl)
  rotate_left
  · simp only [Act.put, List.setIfInBounds_toArray, List.set_cons_zero, List.set_cons_succ, i64_w, i32_w]
    rfl
  refine take_ (i := 3) (N := some 28) (v := ?_) (a' := ?_) #[true, true, true, true, false, false, false, false, false, false, false, false, false, false] rfl rfl (by kernel_rfl) (fun _ _ _ h => h) (Or.inl ⟨by rfl, ?_⟩) hHeld ?_ ?_
  rotate_left
  · rintro w' ⟨s0, s1, s2⟩
    go_simp
    (try with_reducible rfl)
  rotate_left
  · simp only [Act.put, List.setIfInBounds_toArray, List.set_cons_zero, List.set_cons_succ, i64_w, i32_w]
    rfl
  refine pure_ (i := 4) (N := some 29) (v := ?_) (a' := ?_) #[true, true, true, true, true, false, false, false, false, false, false, false, false, false] rfl rfl (by kernel_rfl) (fun _ _ _ h => h) (Or.inl ⟨by rfl, ?_⟩) ?_ ?_
  rotate_left
  · intro w'
    go_simp
    (try with_reducible rfl)
  rotate_left
  · simp only [Act.put, List.setIfInBounds_toArray, List.set_cons_zero, List.set_cons_succ, i64_w, i32_w]
    rfl
  refine pure_ (i := 5) (N := some 30) (v := ?_) (a' := ?_) #[true, true, true, true, true, true, false, false, false, false, false, false, false, false] rfl rfl (by kernel_rfl) (fun _ _ _ h => h) (Or.inl ⟨by rfl, ?_⟩) ?_ ?_
  rotate_left
  · intro w'
    go_simp
    (try with_reducible rfl)
  rotate_left
  · simp only [Act.put, List.setIfInBounds_toArray, List.set_cons_zero, List.set_cons_succ, i64_w, i32_w]
    rfl
  refine take_ (i := 6) (N := some 31) (v := ?_) (a' := ?_) #[true, true, true, true, true, true, true, false, false, false, false, false, false, false] rfl rfl (by kernel_rfl) (fun _ _ _ h => h) (Or.inl ⟨by rfl, ?_⟩) hHeld ?_ ?_
  rotate_left
  · rintro w' ⟨s0, s1, s2⟩
    go_simp
    (try with_reducible rfl)
  rotate_left
  · simp only [Act.put, List.setIfInBounds_toArray, List.set_cons_zero, List.set_cons_succ, i64_w, i32_w]
    rfl
  refine take_ (i := 7) (N := some 32) (v := ?_) (a' := ?_) #[true, true, true, true, true, true, true, true, false, false, false, false, false, false] rfl rfl (by kernel_rfl) (fun _ _ _ h => h) (Or.inl ⟨by rfl, ?_⟩) hHeld ?_ ?_
  rotate_left
  · rintro w' ⟨s0, s1, s2⟩
    go_simp
    (try with_reducible rfl)
  rotate_left
  · simp only [Act.put, List.setIfInBounds_toArray, List.set_cons_zero, List.set_cons_succ, i64_w, i32_w]
    rfl
  refine pure_ (i := 8) (N := some 24) (v := ?_) (a' := ?_) #[true, true, true, true, true, true, true, true, true, false, false, false, false, false] rfl rfl (by kernel_rfl) (fun _ _ _ h => h) (Or.inl ⟨by rfl, ?_⟩) ?_ ?_
  rotate_left
  · intro w'
    go_simp
    (try with_reducible rfl)
  rotate_left
  · simp only [Act.put, List.setIfInBounds_toArray, List.set_cons_zero, List.set_cons_succ, i64_w, i32_w]
    rfl
  refine pure_ (i := 9) (N := some 33) (v := ?_) (a' := ?_) #[true, true, true, true, true, true, true, true, true, true, false, false, false, false] rfl rfl (by kernel_rfl) (fun _ _ _ h => h) (Or.inl ⟨by rfl, ?_⟩) ?_ ?_
  rotate_left
  · intro w'
    go_simp
    (try with_reducible rfl)
  rotate_left
  · simp only [Act.put, List.setIfInBounds_toArray, List.set_cons_zero, List.set_cons_succ, i64_w, i32_w]
    rfl
  refine pure_ (i := 10) (N := some 34) (v := ?_) (a' := ?_) #[true, true, true, true, true, true, true, true, true, true, true, false, false, false] rfl rfl (by kernel_rfl) (fun _ _ _ h => h) (Or.inl ⟨by rfl, ?_⟩) ?_ ?_
  rotate_left
  · intro w'
    go_simp
    (try with_reducible rfl)
  rotate_left
  · simp only [Act.put, List.setIfInBounds_toArray, List.set_cons_zero, List.set_cons_succ, i64_w, i32_w]
    rfl
  refine one_ (i := 11) (N := some 7) #[true, true, true, true, true, true, true, true, true, true, true, true, false, false] rfl rfl (by kernel_rfl) (by decide) (fun K hK => ?_)
  refine value_ (v := .pointer (some ⟨W1.heap.size, 0, none⟩)) (w1 := W1.drew.alloc (.cells #[.string ⟨#[]⟩, .nilFunc] 59)) (by rfl) rfl ?_ ?_
  · go_simp
    (try rfl)
  have N2 : (W1.drew.alloc (.cells #[.string ⟨#[]⟩, .nilFunc] 59)).heap[W1.heap.size]? = some (.cells #[.string ⟨#[]⟩, .nilFunc] 59) := blk_new W1.drew _
  have Q2 : Below W1.heap.size W1 (W1.drew.alloc (.cells #[.string ⟨#[]⟩, .nilFunc] 59)) := (below_drew (Below.refl _ _)).alloc (Nat.le_refl _) _
  have S2 := S1.below Q2
  have y72 : (W1.drew.alloc (.cells #[.string ⟨#[]⟩, .nilFunc] 59)).cell? ⟨g, 7, none⟩ = some (.map (some r)) := (blk_cell S2.own 7).trans rfl
  have z02 := (Q2.cell (World.block_lt_of_cell? _ _ z0)).trans z0
  have l2 := hlk _ S2.map
  generalize W1.drew.alloc (.cells #[.string ⟨#[]⟩, .nilFunc] 59) = W2 at N2 Q2 S2 y72 z02 l2 ⊢
  refine hK.out _ _ (⟨y72, z02, l2⟩) (fun hHeld => ?_)
  clear hK K
  refine norm_ (a' := ?_) ?_ ?_
  rotate_left
  · show Act.put _ (some 7) _ = _
    simp only [Act.put, List.setIfInBounds_toArray, List.set_cons_zero, List.set_cons_succ, i64_w, i32_w]
    rfl
  refine last_ (i := 12) (N := none) #[true, true, true, true, true, true, true, true, true, true, true, true, true, false] rfl rfl (by kernel_rfl) (by decide) (fun K hK => ?_)
  have n0 : W2.cell? ⟨W1.heap.size, 0, none⟩ = some (.string ⟨#[]⟩) := (blk_cell N2 0).trans rfl
  have f0 := blk_frozen N2 0
  have N3 := blk_set N2 0 (.string ⟨#[110, 110, 110, 110, 110]⟩)
  have n1 : (W2.setCell ⟨W1.heap.size, 0, none⟩ (.string ⟨#[110, 110, 110, 110, 110]⟩)).cell? ⟨W1.heap.size, 1, none⟩ = some .nilFunc := (blk_cell N3 1).trans rfl
  have f1 := blk_frozen N3 1
  have N4 : ((W2.setCell ⟨W1.heap.size, 0, none⟩ (.string ⟨#[110, 110, 110, 110, 110]⟩)).setCell ⟨W1.heap.size, 1, none⟩ (.func (.func 33) #[.pointer (some ⟨g, 0, none⟩)] #[])).heap[W1.heap.size]? = some (.cells #[.string ⟨#[110, 110, 110, 110, 110]⟩, .func (.func 33) #[.pointer (some ⟨g, 0, none⟩)] #[]] 59 (0, 0)) := blk_set N3 1 _
  have Q4 : Below W1.heap.size W1 ((W2.setCell ⟨W1.heap.size, 0, none⟩ (.string ⟨#[110, 110, 110, 110, 110]⟩)).setCell ⟨W1.heap.size, 1, none⟩ (.func (.func 33) #[.pointer (some ⟨g, 0, none⟩)] #[])) := (Q2.setCell (Nat.le_refl _) _).setCell (Nat.le_refl _) _
  refine skip_ (w1 := (W2.setCell ⟨W1.heap.size, 0, none⟩ (.string ⟨#[110, 110, 110, 110, 110]⟩)).setCell ⟨W1.heap.size, 1, none⟩ (.func (.func 33) #[.pointer (some ⟨g, 0, none⟩)] #[])) (by rfl) rfl ?_ ?_
  · go_simp
    (try rfl)
  clear n0 f0 n1 f1 N3
  generalize (W2.setCell ⟨W1.heap.size, 0, none⟩ (.string ⟨#[110, 110, 110, 110, 110]⟩)).setCell ⟨W1.heap.size, 1, none⟩ (.func (.func 33) #[.pointer (some ⟨g, 0, none⟩)] #[]) = W4 at N4 Q4 ⊢
  refine hK.out _ _ ?_
  clear hK K
  refine pure_ (i := 13) (N := some 8) (v := ?_) (a' := ?_) #[true, true, true, true, true, true, true, true, true, true, true, true, true, true] rfl rfl (by kernel_rfl) (fun _ _ _ h => h) (Or.inl ⟨by rfl, ?_⟩) ?_ ?_
  rotate_left
  · intro w'
    go_simp
    (try with_reducible rfl)
  rotate_left
  · simp only [Act.put, List.setIfInBounds_toArray, List.set_cons_zero, List.set_cons_succ, i64_w, i32_w]
    rfl
  refine done_ (by kernel_rfl) ?_
  go_wp2
  obtain ⟨ad1, hA1, hX1⟩ := words_rest ad HC1.out (Kd.R_reads' HR1.out).2.1
  have S4 := S1.below Q4
  have x4 : W4.cell? ⟨W1.heap.size, 0, none⟩ = some (.string ⟨#[110, 110, 110, 110, 110]⟩) := (blk_cell N4 0).trans rfl
  have hS7 : (fun w' => w'.cell? ⟨W1.heap.size, 0, none⟩ = some (.string ⟨#[110, 110, 110, 110, 110]⟩)) W4.drew := x4
  refine start_ (n := 12) (S := fun w' => w'.cell? ⟨W1.heap.size, 0, none⟩ = some (.string ⟨#[110, 110, 110, 110, 110]⟩)) (ds := []) #[false, false, false, false, false, false, false, false, false, false, false, false] (by kernel_rfl) rfl rfl ?st0 (fun hHeld => ?_)
  case st0 => exact hS7
  refine pure_ (i := 0) (N := some 36) (v := ?_) (a' := ?_) #[true, false, false, false, false, false, false, false, false, false, false, false] rfl rfl (by kernel_rfl) (fun _ _ _ h => h) (Or.inl ⟨by rfl, ?_⟩) ?_ ?_
  rotate_left
  · intro w'
    go_simp
    (try with_reducible rfl)
  rotate_left
  · simp only [Act.put, List.setIfInBounds_toArray, List.set_cons_zero, List.set_cons_succ, i64_w, i32_w]
    rfl
  refine pure_ (i := 1) (N := some 37) (v := ?_) (a' := ?_) #[true, true, false, false, false, false, false, false, false, false, false, false] rfl rfl (by kernel_rfl) (fun _ _ _ h => h) (Or.inl ⟨by rfl, ?_⟩) ?_ ?_
  rotate_left
  · intro w'
    go_simp
    (try with_reducible rfl)
  rotate_left
  · simp only [Act.put, List.setIfInBounds_toArray, List.set_cons_zero, List.set_cons_succ, i64_w, i32_w]
    rfl
  refine pure_ (i := 2) (N := some 38) (v := ?_) (a' := ?_) #[true, true, true, false, false, false, false, false, false, false, false, false] rfl rfl (by kernel_rfl) (fun _ _ _ h => h) (Or.inl ⟨by rfl, ?_⟩) ?_ ?_
  rotate_left
  · intro w'
    go_simp
    (try with_reducible rfl)
  rotate_left
  · simp only [Act.put, List.setIfInBounds_toArray, List.set_cons_zero, List.set_cons_succ, i64_w, i32_w]
    rfl
  refine take_ (i := 3) (N := some 39) (v := ?_) (a' := ?_) #[true, true, true, true, false, false, false, false, false, false, false, false] rfl rfl (by kernel_rfl) (fun _ _ _ h => h) (Or.inl ⟨by rfl, ?_⟩) hHeld ?_ ?_
  rotate_left
  · rintro w' s0
    go_simp
    (try with_reducible rfl)
  rotate_left
  · simp only [Act.put, List.setIfInBounds_toArray, List.set_cons_zero, List.set_cons_succ, i64_w, i32_w]
    rfl
  refine one_ (i := 4) (N := some 40) #[true, true, true, true, true, false, false, false, false, false, false, false] rfl rfl (by kernel_rfl) (by decide) (fun K hK => ?_)
  refine goes_ Tryz.func22 (by kernel_rfl) rfl #[.slice (some ad1) 5 (cap - 1), .string ⟨#[110, 110, 110, 110, 110]⟩] (by rfl) rfl rfl (by (try simp only [List.map_toArray, List.map_cons, List.map_nil]); first | done | rfl) ?_
  refine (KS _ _ W4.drew ?hw).mono ?_
  case hw => exact fun j s hj => ((below_drew Q4).cell (World.block_lt_of_cell? _ _ (hX1 j s hj))).trans (hX1 j s hj)
  rintro e W5 ⟨v5, rfl, hR5, hb5⟩
  have S5 := S4.below (b_tr (below_drew (Below.refl _ _)) hb5)
  refine ⟨_, rfl, ?_⟩
  refine hK.out _ _ ((hb5.cell (blk_lt N4)).trans x4) (fun hHeld => ?_)
  clear hK K
  refine norm_ (a' := ?_) ?_ ?_
  rotate_left
  · show Act.put _ (some 40) _ = _
    simp only [Act.put, List.setIfInBounds_toArray, List.set_cons_zero, List.set_cons_succ, i64_w, i32_w]
    rfl
  refine pure_ (i := 5) (N := some 35) (v := ?_) (a' := ?_) #[true, true, true, true, true, true, false, false, false, false, false, false] rfl rfl (by kernel_rfl) (fun _ _ _ h => h) (Or.inl ⟨by rfl, ?_⟩) ?_ ?_
  rotate_left
  · intro w'
    go_simp
    (try with_reducible rfl)
  rotate_left
  · simp only [Act.put, List.setIfInBounds_toArray, List.set_cons_zero, List.set_cons_succ, i64_w, i32_w]
    rfl
  refine pure_ (i := 6) (N := some 41) (v := ?_) (a' := ?_) #[true, true, true, true, true, true, true, false, false, false, false, false] rfl rfl (by kernel_rfl) (fun _ _ _ h => h) (Or.inl ⟨by rfl, ?_⟩) ?_ ?_
  rotate_left
  · intro w'
    go_simp
    (try with_reducible rfl)
  rotate_left
  · simp only [Act.put, List.setIfInBounds_toArray, List.set_cons_zero, List.set_cons_succ, i64_w, i32_w]
    rfl
  refine pure_ (i := 7) (N := some 42) (v := ?_) (a' := ?_) #[true, true, true, true, true, true, true, true, false, false, false, false] rfl rfl (by kernel_rfl) (fun _ _ _ h => h) (Or.inl ⟨by rfl, ?_⟩) ?_ ?_
  rotate_left
  · intro w'
    go_simp
    (try with_reducible rfl)
  rotate_left
  · simp only [Act.put, List.setIfInBounds_toArray, List.set_cons_zero, List.set_cons_succ, i64_w, i32_w]
    rfl
  refine pure_ (i := 8) (N := some 43) (v := ?_) (a' := ?_) #[true, true, true, true, true, true, true, true, true, false, false, false] rfl rfl (by kernel_rfl) (fun _ _ _ h => h) (Or.inl ⟨by rfl, ?_⟩) ?_ ?_
  rotate_left
  · intro w'
    go_simp
    (try with_reducible rfl)
  rotate_left
  · simp only [Act.put, List.setIfInBounds_toArray, List.set_cons_zero, List.set_cons_succ, i64_w, i32_w]
    rfl
  refine pure_ (i := 9) (N := some 9) (v := ?_) (a' := ?_) #[true, true, true, true, true, true, true, true, true, true, false, false] rfl rfl (by kernel_rfl) (fun _ _ _ h => h) (Or.inl ⟨by rfl, ?_⟩) ?_ ?_
  rotate_left
  · intro w'
    go_simp
    (try with_reducible rfl)
  rotate_left
  · simp only [Act.put, List.setIfInBounds_toArray, List.set_cons_zero, List.set_cons_succ, i64_w, i32_w]
    rfl
  refine pure_ (i := 10) (N := some 10) (v := ?_) (a' := ?_) #[true, true, true, true, true, true, true, true, true, true, true, false] rfl rfl (by kernel_rfl) (fun _ _ _ h => h) (Or.inl ⟨by rfl, ?_⟩) ?_ ?_
  rotate_left
  · intro w'
    go_simp
    (try with_reducible rfl)
  rotate_left
  · simp only [Act.put, List.setIfInBounds_toArray, List.set_cons_zero, List.set_cons_succ, i64_w, i32_w]
    rfl
  refine pure_ (i := 11) (N := some 11) (v := ?_) (a' := ?_) #[true, true, true, true, true, true, true, true, true, true, true, true] rfl rfl (by kernel_rfl) (fun _ _ _ h => h) (Or.inl ⟨by rfl, ?_⟩) ?_ ?_
  rotate_left
  · intro w'
    go_simp
    (try with_reducible rfl)
  rotate_left
  · simp only [Act.put, List.setIfInBounds_toArray, List.set_cons_zero, List.set_cons_succ, i64_w, i32_w]
    rfl
  refine done_ (by kernel_rfl) ?_
  have x5 : W5.cell? ⟨W1.heap.size, 1, none⟩ = some (.func (.func 33) #[.pointer (some ⟨g, 0, none⟩)] #[]) := (hb5.cell (blk_lt N4)).trans ((blk_cell N4 1).trans rfl)
  have B5 := Aside0.mk (b_tr (b_tr B1.out Q4) (b_tr (below_drew (Below.refl _ _)) hb5))
  obtain ⟨A5, c5, hv5⟩ := Kd.R_slice hR5
  subst hv5
  have C5 := (Kd.R_reads' hR5).2.2
  obtain ⟨ad5_0, e5_0, z5_0⟩ := Kd.at_int C5 0 (by decide) (by decide)
  obtain ⟨ad5_1, e5_1, z5_1⟩ := Kd.at_int C5 1 (by decide) (by decide)
  obtain ⟨ad5_2, e5_2, z5_2⟩ := Kd.at_int C5 2 (by decide) (by decide)
  obtain ⟨ad5_3, e5_3, z5_3⟩ := Kd.at_int C5 3 (by decide) (by decide)
  obtain ⟨ad5_4, e5_4, z5_4⟩ := Kd.at_int C5 4 (by decide) (by decide)
  obtain ⟨ad5, rfl⟩ : ∃ ad5, A5 = some ad5 := ⟨_, e5_0⟩
  obtain rfl := Option.some.inj e5_0
  obtain rfl := Option.some.inj e5_1
  obtain rfl := Option.some.inj e5_2
  obtain rfl := Option.some.inj e5_3
  obtain rfl := Option.some.inj e5_4
  have hg5 : ad5.block ≠ g := fun e => by
    have h1 := ((Kd.R_bound hR5).1 ad5.block rfl).2.1
    have h2 := blk_lt S4.own
    rw [e] at h1
    exact absurd h2 (Nat.not_lt.2 h1)
  go_wp2_with (first
    | (go_at_call 33; (refine (conf_says c ⟨6, 50, 1, 1, 0, []⟩ (by rfl) rfl hc r g ad5 c5 _ _ S5.own hg5 ((congrArg _ (show ad5 = ad5.add (Int.toNat 0) from by cases ad5; rfl)).trans z5_0) z5_1 z5_2 z5_3 z5_4).mono ?_); rintro e w' ⟨rfl, h9, k9⟩)
    | (go_at_call 21; (with_reducible refine (err_say 9 _ say_word _).mono ?_); rintro e w' ⟨rfl, hb⟩))
  go_ret
  have K9 := (Kp.of (F := fun k => k = g) B5.out).trans k9
  exact ⟨rfl, ⟨h9, k9.blk S5.map S5.rg, S5.box.elim fun T hT => ⟨T, k9.blk hT S5.pg⟩, S5.rg, S5.pg⟩, K9⟩
set_option maxHeartbeats 4000000 in
set_option maxRecDepth 100000 in
theorem line_state (g r p0 p1 q0 q1 : Nat) (c : Cf) (hc : c.pairs = []) (w : World) (hS : Scr g r p0 p1 q0 q1 c w) :
    Calls Tryz.prog 15 #[.pointer (some ⟨g, 0, none⟩), .string ⟨#[115, 116, 97, 116, 101, 32, 48]⟩] w fun e w' => e = .returned (.string ⟨#[110, 111, 110, 101]⟩) ∧ Scr g r p0 p1 q0 q1 c w' ∧ Kp (fun k => k = g) w w' := by
  have KW := fun W => shell_Words.calls 120 ⟨#[115, 116, 97, 116, 101, 32, 48]⟩ [(⟨#[115, 116, 97, 116, 101]⟩ : ByteArray), (⟨#[48]⟩ : ByteArray)] 0 W (by kernel_rfl)
  have hdec : ∀ pos, pos < (⟨#[110]⟩ : ByteArray).size → Utf8.decode ⟨#[110]⟩ pos = (110, 1) := fun pos h => by
    have h' : pos < 1 := h
    match pos, h' with
    | 0, _ => rfl
    | q + 1, hq => exact absurd hq (by omega)
  have hnum : ∀ (j : Nat) s x, ([⟨#[48]⟩] : List ByteArray)[j]? = some s → ([0] : List Int)[j]? = some x → ∀ W, Calls Tryz.prog 40 #[.string s] W fun e w' => e = .returned (.tuple #[.int .i64 x, .bool true]) ∧ Below W.heap.size W w' := fun j s x hs hx W => by
    match j, hs, hx with
    | 0, hs, hx =>
      obtain rfl := Option.some.inj hs
      obtain rfl := Option.some.inj hx
      exact number_0 W
    | q + 1, hs, _ => simp at hs
  have KS := fun ad c W hw => split_nums ⟨#[110]⟩ ([⟨#[48]⟩] : List ByteArray) ([0] : List Int) rfl (by decide) rfl hdec hnum ad c W hw
  go_enter Tryz.func15, Tryz.ntmps15
  go_wp2_with (first
    | (go_at_call 6; ((with_reducible refine (KW _).mono ?_); rintro e W1 ⟨v, rfl, hR, hb⟩; have S1 := hS.below hb; have B1 := Aside0.mk hb; obtain ⟨A, cap, rfl⟩ := Kd.R_slice hR; have C1 := (Kd.R_reads' hR).2.2; obtain ⟨ad, rfl, x0⟩ := Kd.at_string C1 0 (by decide) (by decide); have HC1 := Aside0.mk C1; have HR1 := Aside0.mk hR; clear hb hR C1))
    | (go_at_call 21; (with_reducible refine (err_say 9 _ say_word _).mono ?_); rintro e w' ⟨rfl, hb⟩))
  have hlk : ∀ W', W'.heap[r]? = some (.map (verbs g p0 p1 q0 q1) 6) → (Instr.lookup 52 (.map (some r)) (.string ⟨#[115, 116, 97, 116, 101]⟩) true).run Tryz.prog W' = .ok (.tuple #[.agg #[.string ⟨#[110]⟩, .func (.func 58) #[] #[.pointer (some ⟨p0, 0, none⟩), .pointer (some ⟨p1, 0, none⟩)]], .bool true]) W' := fun W' h => look_run 52 9 59 r 6 _ ⟨#[115, 116, 97, 116, 101]⟩ 3 _ Tryz.underlying52 Tryz.underlying9 h (by rfl)
  have y7 : W1.cell? ⟨g, 7, none⟩ = some (.map (some r)) := (blk_cell S1.own 7).trans rfl
  have z0 : W1.cell? ad = some (.string ⟨#[115, 116, 97, 116, 101]⟩) := by
    exact (congrArg _ (show ad = ad.add (Int.toNat 0) from by cases ad; rfl)).trans x0
  have hS0 : (fun w' => w'.cell? ⟨g, 7, none⟩ = some (.map (some r)) ∧ w'.cell? ad = some (.string ⟨#[115, 116, 97, 116, 101]⟩) ∧ (Instr.lookup 52 (.map (some r)) (.string ⟨#[115, 116, 97, 116, 101]⟩) true).run Tryz.prog w' = .ok (.tuple #[.agg #[.string ⟨#[110]⟩, .func (.func 58) #[] #[.pointer (some ⟨p0, 0, none⟩), .pointer (some ⟨p1, 0, none⟩)]], .bool true]) w') W1.drew := ⟨y7, z0, hlk W1.drew S1.map⟩
  refine start_ (n := 14) (S := fun w' => w'.cell? ⟨g, 7, none⟩ = some (.map (some r)) ∧ w'.cell? ad = some (.string ⟨#[115, 116, 97, 116, 101]⟩) ∧ (Instr.lookup 52 (.map (some r)) (.string ⟨#[115, 116, 97, 116, 101]⟩) true).run Tryz.prog w' = .ok (.tuple #[.agg #[.string ⟨#[110]⟩, .func (.func 58) #[] #[.pointer (some ⟨p0, 0, none⟩), .pointer (some ⟨p1, 0, none⟩)]], .bool true]) w') (ds := [12]) #[false, false, false, false, false, false, false, false, false, false, false, false, false, false] (by kernel_rfl) rfl rfl ?st0 (fun hHeld => ?_)
  case st0 => exact hS0
  refine pure_ (i := 0) (N := some 25) (v := ?_) (a' := ?_) #[true, false, false, false, false, false, false, false, false, false, false, false, false, false] rfl rfl (by kernel_rfl) (fun _ _ _ h => h) (Or.inl ⟨by rfl, ?_⟩) ?_ ?_
  rotate_left
  · intro w'
    go_simp
    (try with_reducible rfl)
  rotate_left
  · simp only [Act.put, List.setIfInBounds_toArray, List.set_cons_zero, List.set_cons_succ, i64_w, i32_w]
    rfl
  refine pure_ (i := 1) (N := some 26) (v := ?_) (a' := ?_) #[true, true, false, false, false, false, false, false, false, false, false, false, false, false] rfl rfl (by kernel_rfl) (fun _ _ _ h => h) (Or.inl ⟨by rfl, ?_⟩) ?_ ?_
  rotate_left
  · intro w'
    go_simp
    (try with_reducible rfl)
  rotate_left
  · simp only [Act.put, List.setIfInBounds_toArray, List.set_cons_zero, List.set_cons_succ, i64_w, i32_w]
    rfl
  refine pure_ (i := 2) (N := some 27) (v := ?_) (a' := ?_) #[true, true, true, false, false, false, false, false, false, false, false, false, false, false] rfl rfl (by kernel_rfl) (fun _ _ _ h => h) (Or.inl ⟨by rfl, ?_⟩) ?_ ?_
  rotate_left
  · intro w'
    go_simp
    (try with_reducible rfl)
  rotate_left
  · simp only [Act.put, List.setIfInBounds_toArray, List.set_cons_zero, List.set_cons_succ, i64_w, i32_w]
    rfl
  refine take_ (i := 3) (N := some 28) (v := ?_) (a' := ?_) #[true, true, true, true, false, false, false, false, false, false, false, false, false, false] rfl rfl (by kernel_rfl) (fun _ _ _ h => h) (Or.inl ⟨by rfl, ?_⟩) hHeld ?_ ?_
  rotate_left
  · rintro w' ⟨s0, s1, s2⟩
    go_simp
    (try with_reducible rfl)
  rotate_left
  · simp only [Act.put, List.setIfInBounds_toArray, List.set_cons_zero, List.set_cons_succ, i64_w, i32_w]
    rfl
  refine pure_ (i := 4) (N := some 29) (v := ?_) (a' := ?_) #[true, true, true, true, true, false, false, false, false, false, false, false, false, false] rfl rfl (by kernel_rfl) (fun _ _ _ h => h) (Or.inl ⟨by rfl, ?_⟩) ?_ ?_
  rotate_left
  · intro w'
    go_simp
    (try with_reducible rfl)
  rotate_left
  · simp only [Act.put, List.setIfInBounds_toArray, List.set_cons_zero, List.set_cons_succ, i64_w, i32_w]
    rfl
  refine pure_ (i := 5) (N := some 30) (v := ?_) (a' := ?_) #[true, true, true, true, true, true, false, false, false, false, false, false, false, false] rfl rfl (by kernel_rfl) (fun _ _ _ h => h) (Or.inl ⟨by rfl, ?_⟩) ?_ ?_
  rotate_left
  · intro w'
    go_simp
    (try with_reducible rfl)
  rotate_left
  · simp only [Act.put, List.setIfInBounds_toArray, List.set_cons_zero, List.set_cons_succ, i64_w, i32_w]
    rfl
  refine take_ (i := 6) (N := some 31) (v := ?_) (a' := ?_) #[true, true, true, true, true, true, true, false, false, false, false, false, false, false] rfl rfl (by kernel_rfl) (fun _ _ _ h => h) (Or.inl ⟨by rfl, ?_⟩) hHeld ?_ ?_
  rotate_left
  · rintro w' ⟨s0, s1, s2⟩
    go_simp
    (try with_reducible rfl)
  rotate_left
  · simp only [Act.put, List.setIfInBounds_toArray, List.set_cons_zero, List.set_cons_succ, i64_w, i32_w]
    rfl
  refine take_ (i := 7) (N := some 32) (v := ?_) (a' := ?_) #[true, true, true, true, true, true, true, true, false, false, false, false, false, false] rfl rfl (by kernel_rfl) (fun _ _ _ h => h) (Or.inl ⟨by rfl, ?_⟩) hHeld ?_ ?_
  rotate_left
  · rintro w' ⟨s0, s1, s2⟩
    go_simp
    (try with_reducible rfl)
  rotate_left
  · simp only [Act.put, List.setIfInBounds_toArray, List.set_cons_zero, List.set_cons_succ, i64_w, i32_w]
    rfl
  refine pure_ (i := 8) (N := some 24) (v := ?_) (a' := ?_) #[true, true, true, true, true, true, true, true, true, false, false, false, false, false] rfl rfl (by kernel_rfl) (fun _ _ _ h => h) (Or.inl ⟨by rfl, ?_⟩) ?_ ?_
  rotate_left
  · intro w'
    go_simp
    (try with_reducible rfl)
  rotate_left
  · simp only [Act.put, List.setIfInBounds_toArray, List.set_cons_zero, List.set_cons_succ, i64_w, i32_w]
    rfl
  refine pure_ (i := 9) (N := some 33) (v := ?_) (a' := ?_) #[true, true, true, true, true, true, true, true, true, true, false, false, false, false] rfl rfl (by kernel_rfl) (fun _ _ _ h => h) (Or.inl ⟨by rfl, ?_⟩) ?_ ?_
  rotate_left
  · intro w'
    go_simp
    (try with_reducible rfl)
  rotate_left
  · simp only [Act.put, List.setIfInBounds_toArray, List.set_cons_zero, List.set_cons_succ, i64_w, i32_w]
    rfl
  refine pure_ (i := 10) (N := some 34) (v := ?_) (a' := ?_) #[true, true, true, true, true, true, true, true, true, true, true, false, false, false] rfl rfl (by kernel_rfl) (fun _ _ _ h => h) (Or.inl ⟨by rfl, ?_⟩) ?_ ?_
  rotate_left
  · intro w'
    go_simp
    (try with_reducible rfl)
  rotate_left
  · simp only [Act.put, List.setIfInBounds_toArray, List.set_cons_zero, List.set_cons_succ, i64_w, i32_w]
    rfl
  refine one_ (i := 11) (N := some 7) #[true, true, true, true, true, true, true, true, true, true, true, true, false, false] rfl rfl (by kernel_rfl) (by decide) (fun K hK => ?_)
  refine value_ (v := .pointer (some ⟨W1.heap.size, 0, none⟩)) (w1 := W1.drew.alloc (.cells #[.string ⟨#[]⟩, .nilFunc] 59)) (by rfl) rfl ?_ ?_
  · go_simp
    (try rfl)
  have N2 : (W1.drew.alloc (.cells #[.string ⟨#[]⟩, .nilFunc] 59)).heap[W1.heap.size]? = some (.cells #[.string ⟨#[]⟩, .nilFunc] 59) := blk_new W1.drew _
  have Q2 : Below W1.heap.size W1 (W1.drew.alloc (.cells #[.string ⟨#[]⟩, .nilFunc] 59)) := (below_drew (Below.refl _ _)).alloc (Nat.le_refl _) _
  have S2 := S1.below Q2
  have y72 : (W1.drew.alloc (.cells #[.string ⟨#[]⟩, .nilFunc] 59)).cell? ⟨g, 7, none⟩ = some (.map (some r)) := (blk_cell S2.own 7).trans rfl
  have z02 := (Q2.cell (World.block_lt_of_cell? _ _ z0)).trans z0
  have l2 := hlk _ S2.map
  generalize W1.drew.alloc (.cells #[.string ⟨#[]⟩, .nilFunc] 59) = W2 at N2 Q2 S2 y72 z02 l2 ⊢
  refine hK.out _ _ (⟨y72, z02, l2⟩) (fun hHeld => ?_)
  clear hK K
  refine norm_ (a' := ?_) ?_ ?_
  rotate_left
  · show Act.put _ (some 7) _ = _
    simp only [Act.put, List.setIfInBounds_toArray, List.set_cons_zero, List.set_cons_succ, i64_w, i32_w]
    rfl
  refine last_ (i := 12) (N := none) #[true, true, true, true, true, true, true, true, true, true, true, true, true, false] rfl rfl (by kernel_rfl) (by decide) (fun K hK => ?_)
  have n0 : W2.cell? ⟨W1.heap.size, 0, none⟩ = some (.string ⟨#[]⟩) := (blk_cell N2 0).trans rfl
  have f0 := blk_frozen N2 0
  have N3 := blk_set N2 0 (.string ⟨#[110]⟩)
  have n1 : (W2.setCell ⟨W1.heap.size, 0, none⟩ (.string ⟨#[110]⟩)).cell? ⟨W1.heap.size, 1, none⟩ = some .nilFunc := (blk_cell N3 1).trans rfl
  have f1 := blk_frozen N3 1
  have N4 : ((W2.setCell ⟨W1.heap.size, 0, none⟩ (.string ⟨#[110]⟩)).setCell ⟨W1.heap.size, 1, none⟩ (.func (.func 58) #[] #[.pointer (some ⟨p0, 0, none⟩), .pointer (some ⟨p1, 0, none⟩)])).heap[W1.heap.size]? = some (.cells #[.string ⟨#[110]⟩, .func (.func 58) #[] #[.pointer (some ⟨p0, 0, none⟩), .pointer (some ⟨p1, 0, none⟩)]] 59 (0, 0)) := blk_set N3 1 _
  have Q4 : Below W1.heap.size W1 ((W2.setCell ⟨W1.heap.size, 0, none⟩ (.string ⟨#[110]⟩)).setCell ⟨W1.heap.size, 1, none⟩ (.func (.func 58) #[] #[.pointer (some ⟨p0, 0, none⟩), .pointer (some ⟨p1, 0, none⟩)])) := (Q2.setCell (Nat.le_refl _) _).setCell (Nat.le_refl _) _
  refine skip_ (w1 := (W2.setCell ⟨W1.heap.size, 0, none⟩ (.string ⟨#[110]⟩)).setCell ⟨W1.heap.size, 1, none⟩ (.func (.func 58) #[] #[.pointer (some ⟨p0, 0, none⟩), .pointer (some ⟨p1, 0, none⟩)])) (by rfl) rfl ?_ ?_
  · go_simp
    (try rfl)
  clear n0 f0 n1 f1 N3
  generalize (W2.setCell ⟨W1.heap.size, 0, none⟩ (.string ⟨#[110]⟩)).setCell ⟨W1.heap.size, 1, none⟩ (.func (.func 58) #[] #[.pointer (some ⟨p0, 0, none⟩), .pointer (some ⟨p1, 0, none⟩)]) = W4 at N4 Q4 ⊢
  refine hK.out _ _ ?_
  clear hK K
  refine pure_ (i := 13) (N := some 8) (v := ?_) (a' := ?_) #[true, true, true, true, true, true, true, true, true, true, true, true, true, true] rfl rfl (by kernel_rfl) (fun _ _ _ h => h) (Or.inl ⟨by rfl, ?_⟩) ?_ ?_
  rotate_left
  · intro w'
    go_simp
    (try with_reducible rfl)
  rotate_left
  · simp only [Act.put, List.setIfInBounds_toArray, List.set_cons_zero, List.set_cons_succ, i64_w, i32_w]
    rfl
  refine done_ (by kernel_rfl) ?_
  go_wp2
  obtain ⟨ad1, hA1, hX1⟩ := words_rest ad HC1.out (Kd.R_reads' HR1.out).2.1
  have S4 := S1.below Q4
  have x4 : W4.cell? ⟨W1.heap.size, 0, none⟩ = some (.string ⟨#[110]⟩) := (blk_cell N4 0).trans rfl
  have hS7 : (fun w' => w'.cell? ⟨W1.heap.size, 0, none⟩ = some (.string ⟨#[110]⟩)) W4.drew := x4
  refine start_ (n := 12) (S := fun w' => w'.cell? ⟨W1.heap.size, 0, none⟩ = some (.string ⟨#[110]⟩)) (ds := []) #[false, false, false, false, false, false, false, false, false, false, false, false] (by kernel_rfl) rfl rfl ?st0 (fun hHeld => ?_)
  case st0 => exact hS7
  refine pure_ (i := 0) (N := some 36) (v := ?_) (a' := ?_) #[true, false, false, false, false, false, false, false, false, false, false, false] rfl rfl (by kernel_rfl) (fun _ _ _ h => h) (Or.inl ⟨by rfl, ?_⟩) ?_ ?_
  rotate_left
  · intro w'
    go_simp
    (try with_reducible rfl)
  rotate_left
  · simp only [Act.put, List.setIfInBounds_toArray, List.set_cons_zero, List.set_cons_succ, i64_w, i32_w]
    rfl
  refine pure_ (i := 1) (N := some 37) (v := ?_) (a' := ?_) #[true, true, false, false, false, false, false, false, false, false, false, false] rfl rfl (by kernel_rfl) (fun _ _ _ h => h) (Or.inl ⟨by rfl, ?_⟩) ?_ ?_
  rotate_left
  · intro w'
    go_simp
    (try with_reducible rfl)
  rotate_left
  · simp only [Act.put, List.setIfInBounds_toArray, List.set_cons_zero, List.set_cons_succ, i64_w, i32_w]
    rfl
  refine pure_ (i := 2) (N := some 38) (v := ?_) (a' := ?_) #[true, true, true, false, false, false, false, false, false, false, false, false] rfl rfl (by kernel_rfl) (fun _ _ _ h => h) (Or.inl ⟨by rfl, ?_⟩) ?_ ?_
  rotate_left
  · intro w'
    go_simp
    (try with_reducible rfl)
  rotate_left
  · simp only [Act.put, List.setIfInBounds_toArray, List.set_cons_zero, List.set_cons_succ, i64_w, i32_w]
    rfl
  refine take_ (i := 3) (N := some 39) (v := ?_) (a' := ?_) #[true, true, true, true, false, false, false, false, false, false, false, false] rfl rfl (by kernel_rfl) (fun _ _ _ h => h) (Or.inl ⟨by rfl, ?_⟩) hHeld ?_ ?_
  rotate_left
  · rintro w' s0
    go_simp
    (try with_reducible rfl)
  rotate_left
  · simp only [Act.put, List.setIfInBounds_toArray, List.set_cons_zero, List.set_cons_succ, i64_w, i32_w]
    rfl
  refine one_ (i := 4) (N := some 40) #[true, true, true, true, true, false, false, false, false, false, false, false] rfl rfl (by kernel_rfl) (by decide) (fun K hK => ?_)
  refine goes_ Tryz.func22 (by kernel_rfl) rfl #[.slice (some ad1) 1 (cap - 1), .string ⟨#[110]⟩] (by rfl) rfl rfl (by (try simp only [List.map_toArray, List.map_cons, List.map_nil]); first | done | rfl) ?_
  refine (KS _ _ W4.drew ?hw).mono ?_
  case hw => exact fun j s hj => ((below_drew Q4).cell (World.block_lt_of_cell? _ _ (hX1 j s hj))).trans (hX1 j s hj)
  rintro e W5 ⟨v5, rfl, hR5, hb5⟩
  have S5 := S4.below (b_tr (below_drew (Below.refl _ _)) hb5)
  refine ⟨_, rfl, ?_⟩
  refine hK.out _ _ ((hb5.cell (blk_lt N4)).trans x4) (fun hHeld => ?_)
  clear hK K
  refine norm_ (a' := ?_) ?_ ?_
  rotate_left
  · show Act.put _ (some 40) _ = _
    simp only [Act.put, List.setIfInBounds_toArray, List.set_cons_zero, List.set_cons_succ, i64_w, i32_w]
    rfl
  refine pure_ (i := 5) (N := some 35) (v := ?_) (a' := ?_) #[true, true, true, true, true, true, false, false, false, false, false, false] rfl rfl (by kernel_rfl) (fun _ _ _ h => h) (Or.inl ⟨by rfl, ?_⟩) ?_ ?_
  rotate_left
  · intro w'
    go_simp
    (try with_reducible rfl)
  rotate_left
  · simp only [Act.put, List.setIfInBounds_toArray, List.set_cons_zero, List.set_cons_succ, i64_w, i32_w]
    rfl
  refine pure_ (i := 6) (N := some 41) (v := ?_) (a' := ?_) #[true, true, true, true, true, true, true, false, false, false, false, false] rfl rfl (by kernel_rfl) (fun _ _ _ h => h) (Or.inl ⟨by rfl, ?_⟩) ?_ ?_
  rotate_left
  · intro w'
    go_simp
    (try with_reducible rfl)
  rotate_left
  · simp only [Act.put, List.setIfInBounds_toArray, List.set_cons_zero, List.set_cons_succ, i64_w, i32_w]
    rfl
  refine pure_ (i := 7) (N := some 42) (v := ?_) (a' := ?_) #[true, true, true, true, true, true, true, true, false, false, false, false] rfl rfl (by kernel_rfl) (fun _ _ _ h => h) (Or.inl ⟨by rfl, ?_⟩) ?_ ?_
  rotate_left
  · intro w'
    go_simp
    (try with_reducible rfl)
  rotate_left
  · simp only [Act.put, List.setIfInBounds_toArray, List.set_cons_zero, List.set_cons_succ, i64_w, i32_w]
    rfl
  refine pure_ (i := 8) (N := some 43) (v := ?_) (a' := ?_) #[true, true, true, true, true, true, true, true, true, false, false, false] rfl rfl (by kernel_rfl) (fun _ _ _ h => h) (Or.inl ⟨by rfl, ?_⟩) ?_ ?_
  rotate_left
  · intro w'
    go_simp
    (try with_reducible rfl)
  rotate_left
  · simp only [Act.put, List.setIfInBounds_toArray, List.set_cons_zero, List.set_cons_succ, i64_w, i32_w]
    rfl
  refine pure_ (i := 9) (N := some 9) (v := ?_) (a' := ?_) #[true, true, true, true, true, true, true, true, true, true, false, false] rfl rfl (by kernel_rfl) (fun _ _ _ h => h) (Or.inl ⟨by rfl, ?_⟩) ?_ ?_
  rotate_left
  · intro w'
    go_simp
    (try with_reducible rfl)
  rotate_left
  · simp only [Act.put, List.setIfInBounds_toArray, List.set_cons_zero, List.set_cons_succ, i64_w, i32_w]
    rfl
  refine pure_ (i := 10) (N := some 10) (v := ?_) (a' := ?_) #[true, true, true, true, true, true, true, true, true, true, true, false] rfl rfl (by kernel_rfl) (fun _ _ _ h => h) (Or.inl ⟨by rfl, ?_⟩) ?_ ?_
  rotate_left
  · intro w'
    go_simp
    (try with_reducible rfl)
  rotate_left
  · simp only [Act.put, List.setIfInBounds_toArray, List.set_cons_zero, List.set_cons_succ, i64_w, i32_w]
    rfl
  refine pure_ (i := 11) (N := some 11) (v := ?_) (a' := ?_) #[true, true, true, true, true, true, true, true, true, true, true, true] rfl rfl (by kernel_rfl) (fun _ _ _ h => h) (Or.inl ⟨by rfl, ?_⟩) ?_ ?_
  rotate_left
  · intro w'
    go_simp
    (try with_reducible rfl)
  rotate_left
  · simp only [Act.put, List.setIfInBounds_toArray, List.set_cons_zero, List.set_cons_succ, i64_w, i32_w]
    rfl
  refine done_ (by kernel_rfl) ?_
  have x5 : W5.cell? ⟨W1.heap.size, 1, none⟩ = some (.func (.func 58) #[] #[.pointer (some ⟨p0, 0, none⟩), .pointer (some ⟨p1, 0, none⟩)]) := (hb5.cell (blk_lt N4)).trans ((blk_cell N4 1).trans rfl)
  have B5 := Aside0.mk (b_tr (b_tr B1.out Q4) (b_tr (below_drew (Below.refl _ _)) hb5))
  have y6 : W5.cell? ⟨g, 6, none⟩ = some (.pointer none) := (blk_cell S5.own 6).trans rfl
  obtain ⟨TB, hTB⟩ := S5.box
  have yb : W5.cell? ⟨p0, 0, none⟩ = some (.pointer (some ⟨g, 0, none⟩)) := (blk_cell hTB 0).trans rfl
  go_wp2_with (first
    | (go_at_call 58; (with_reducible refine (of_says g p0 p1 _ _ _ yb y6).mono ?_); rintro e w' ⟨rfl, hb⟩)
    | (go_at_call 21; (with_reducible refine (err_say 9 _ say_word _).mono ?_); rintro e w' ⟨rfl, hb⟩))
  go_ret
  exact ⟨rfl, S5.below hb, Kp.of (b_tr B5.out hb)⟩
set_option maxHeartbeats 4000000 in
set_option maxRecDepth 100000 in
theorem line_logx (g r p0 p1 q0 q1 : Nat) (c : Cf) (hc : c.pairs = []) (w : World) (hS : Scr g r p0 p1 q0 q1 c w) :
    Calls Tryz.prog 15 #[.pointer (some ⟨g, 0, none⟩), .string ⟨#[108, 111, 103, 32, 120]⟩] w fun e w' => e = .returned (.string ⟨#[119, 111, 114, 100]⟩) ∧ Scr g r p0 p1 q0 q1 c w' ∧ Kp (fun k => k = g) w w' := by
  have KW := fun W => shell_Words.calls 120 ⟨#[108, 111, 103, 32, 120]⟩ [(⟨#[108, 111, 103]⟩ : ByteArray), (⟨#[120]⟩ : ByteArray)] 0 W (by kernel_rfl)
  have KS := fun ad c W hw => split_bad ⟨#[120]⟩ (fun W => number_x W) ad c W hw
  go_enter Tryz.func15, Tryz.ntmps15
  go_wp2_with (first
    | (go_at_call 6; ((with_reducible refine (KW _).mono ?_); rintro e W1 ⟨v, rfl, hR, hb⟩; have S1 := hS.below hb; have B1 := Aside0.mk hb; obtain ⟨A, cap, rfl⟩ := Kd.R_slice hR; have C1 := (Kd.R_reads' hR).2.2; obtain ⟨ad, rfl, x0⟩ := Kd.at_string C1 0 (by decide) (by decide); have HC1 := Aside0.mk C1; have HR1 := Aside0.mk hR; clear hb hR C1))
    | (go_at_call 21; (with_reducible refine (err_say 9 _ say_word _).mono ?_); rintro e w' ⟨rfl, hb⟩))
  have hlk : ∀ W', W'.heap[r]? = some (.map (verbs g p0 p1 q0 q1) 6) → (Instr.lookup 52 (.map (some r)) (.string ⟨#[108, 111, 103]⟩) true).run Tryz.prog W' = .ok (.tuple #[.agg #[.string ⟨#[110]⟩, .func (.func 58) #[] #[.pointer (some ⟨q0, 0, none⟩), .pointer (some ⟨q1, 0, none⟩)]], .bool true]) W' := fun W' h => look_run 52 9 59 r 6 _ ⟨#[108, 111, 103]⟩ 4 _ Tryz.underlying52 Tryz.underlying9 h (by rfl)
  have y7 : W1.cell? ⟨g, 7, none⟩ = some (.map (some r)) := (blk_cell S1.own 7).trans rfl
  have z0 : W1.cell? ad = some (.string ⟨#[108, 111, 103]⟩) := by
    exact (congrArg _ (show ad = ad.add (Int.toNat 0) from by cases ad; rfl)).trans x0
  have hS0 : (fun w' => w'.cell? ⟨g, 7, none⟩ = some (.map (some r)) ∧ w'.cell? ad = some (.string ⟨#[108, 111, 103]⟩) ∧ (Instr.lookup 52 (.map (some r)) (.string ⟨#[108, 111, 103]⟩) true).run Tryz.prog w' = .ok (.tuple #[.agg #[.string ⟨#[110]⟩, .func (.func 58) #[] #[.pointer (some ⟨q0, 0, none⟩), .pointer (some ⟨q1, 0, none⟩)]], .bool true]) w') W1.drew := ⟨y7, z0, hlk W1.drew S1.map⟩
  refine start_ (n := 14) (S := fun w' => w'.cell? ⟨g, 7, none⟩ = some (.map (some r)) ∧ w'.cell? ad = some (.string ⟨#[108, 111, 103]⟩) ∧ (Instr.lookup 52 (.map (some r)) (.string ⟨#[108, 111, 103]⟩) true).run Tryz.prog w' = .ok (.tuple #[.agg #[.string ⟨#[110]⟩, .func (.func 58) #[] #[.pointer (some ⟨q0, 0, none⟩), .pointer (some ⟨q1, 0, none⟩)]], .bool true]) w') (ds := [12]) #[false, false, false, false, false, false, false, false, false, false, false, false, false, false] (by kernel_rfl) rfl rfl ?st0 (fun hHeld => ?_)
  case st0 => exact hS0
  refine pure_ (i := 0) (N := some 25) (v := ?_) (a' := ?_) #[true, false, false, false, false, false, false, false, false, false, false, false, false, false] rfl rfl (by kernel_rfl) (fun _ _ _ h => h) (Or.inl ⟨by rfl, ?_⟩) ?_ ?_
  rotate_left
  · intro w'
    go_simp
    (try with_reducible rfl)
  rotate_left
  · simp only [Act.put, List.setIfInBounds_toArray, List.set_cons_zero, List.set_cons_succ, i64_w, i32_w]
    rfl
  refine pure_ (i := 1) (N := some 26) (v := ?_) (a' := ?_) #[true, true, false, false, false, false, false, false, false, false, false, false, false, false] rfl rfl (by kernel_rfl) (fun _ _ _ h => h) (Or.inl ⟨by rfl, ?_⟩) ?_ ?_
  rotate_left
  · intro w'
    go_simp
    (try with_reducible rfl)
  rotate_left
  · simp only [Act.put, List.setIfInBounds_toArray, List.set_cons_zero, List.set_cons_succ, i64_w, i32_w]
    rfl
  refine pure_ (i := 2) (N := some 27) (v := ?_) (a' := ?_) #[true, true, true, false, false, false, false, false, false, false, false, false, false, false] rfl rfl (by kernel_rfl) (fun _ _ _ h => h) (Or.inl ⟨by rfl, ?_⟩) ?_ ?_
  rotate_left
  · intro w'
    go_simp
    (try with_reducible rfl)
  rotate_left
  · simp only [Act.put, List.setIfInBounds_toArray, List.set_cons_zero, List.set_cons_succ, i64_w, i32_w]
    rfl
  refine take_ (i := 3) (N := some 28) (v := ?_) (a' := ?_) #[true, true, true, true, false, false, false, false, false, false, false, false, false, false] rfl rfl (by kernel_rfl) (fun _ _ _ h => h) (Or.inl ⟨by rfl, ?_⟩) hHeld ?_ ?_
  rotate_left
  · rintro w' ⟨s0, s1, s2⟩
    go_simp
    (try with_reducible rfl)
  rotate_left
  · simp only [Act.put, List.setIfInBounds_toArray, List.set_cons_zero, List.set_cons_succ, i64_w, i32_w]
    rfl
  refine pure_ (i := 4) (N := some 29) (v := ?_) (a' := ?_) #[true, true, true, true, true, false, false, false, false, false, false, false, false, false] rfl rfl (by kernel_rfl) (fun _ _ _ h => h) (Or.inl ⟨by rfl, ?_⟩) ?_ ?_
  rotate_left
  · intro w'
    go_simp
    (try with_reducible rfl)
  rotate_left
  · simp only [Act.put, List.setIfInBounds_toArray, List.set_cons_zero, List.set_cons_succ, i64_w, i32_w]
    rfl
  refine pure_ (i := 5) (N := some 30) (v := ?_) (a' := ?_) #[true, true, true, true, true, true, false, false, false, false, false, false, false, false] rfl rfl (by kernel_rfl) (fun _ _ _ h => h) (Or.inl ⟨by rfl, ?_⟩) ?_ ?_
  rotate_left
  · intro w'
    go_simp
    (try with_reducible rfl)
  rotate_left
  · simp only [Act.put, List.setIfInBounds_toArray, List.set_cons_zero, List.set_cons_succ, i64_w, i32_w]
    rfl
  refine take_ (i := 6) (N := some 31) (v := ?_) (a' := ?_) #[true, true, true, true, true, true, true, false, false, false, false, false, false, false] rfl rfl (by kernel_rfl) (fun _ _ _ h => h) (Or.inl ⟨by rfl, ?_⟩) hHeld ?_ ?_
  rotate_left
  · rintro w' ⟨s0, s1, s2⟩
    go_simp
    (try with_reducible rfl)
  rotate_left
  · simp only [Act.put, List.setIfInBounds_toArray, List.set_cons_zero, List.set_cons_succ, i64_w, i32_w]
    rfl
  refine take_ (i := 7) (N := some 32) (v := ?_) (a' := ?_) #[true, true, true, true, true, true, true, true, false, false, false, false, false, false] rfl rfl (by kernel_rfl) (fun _ _ _ h => h) (Or.inl ⟨by rfl, ?_⟩) hHeld ?_ ?_
  rotate_left
  · rintro w' ⟨s0, s1, s2⟩
    go_simp
    (try with_reducible rfl)
  rotate_left
  · simp only [Act.put, List.setIfInBounds_toArray, List.set_cons_zero, List.set_cons_succ, i64_w, i32_w]
    rfl
  refine pure_ (i := 8) (N := some 24) (v := ?_) (a' := ?_) #[true, true, true, true, true, true, true, true, true, false, false, false, false, false] rfl rfl (by kernel_rfl) (fun _ _ _ h => h) (Or.inl ⟨by rfl, ?_⟩) ?_ ?_
  rotate_left
  · intro w'
    go_simp
    (try with_reducible rfl)
  rotate_left
  · simp only [Act.put, List.setIfInBounds_toArray, List.set_cons_zero, List.set_cons_succ, i64_w, i32_w]
    rfl
  refine pure_ (i := 9) (N := some 33) (v := ?_) (a' := ?_) #[true, true, true, true, true, true, true, true, true, true, false, false, false, false] rfl rfl (by kernel_rfl) (fun _ _ _ h => h) (Or.inl ⟨by rfl, ?_⟩) ?_ ?_
  rotate_left
  · intro w'
    go_simp
    (try with_reducible rfl)
  rotate_left
  · simp only [Act.put, List.setIfInBounds_toArray, List.set_cons_zero, List.set_cons_succ, i64_w, i32_w]
    rfl
  refine pure_ (i := 10) (N := some 34) (v := ?_) (a' := ?_) #[true, true, true, true, true, true, true, true, true, true, true, false, false, false] rfl rfl (by kernel_rfl) (fun _ _ _ h => h) (Or.inl ⟨by rfl, ?_⟩) ?_ ?_
  rotate_left
  · intro w'
    go_simp
    (try with_reducible rfl)
  rotate_left
  · simp only [Act.put, List.setIfInBounds_toArray, List.set_cons_zero, List.set_cons_succ, i64_w, i32_w]
    rfl
  refine one_ (i := 11) (N := some 7) #[true, true, true, true, true, true, true, true, true, true, true, true, false, false] rfl rfl (by kernel_rfl) (by decide) (fun K hK => ?_)
  refine value_ (v := .pointer (some ⟨W1.heap.size, 0, none⟩)) (w1 := W1.drew.alloc (.cells #[.string ⟨#[]⟩, .nilFunc] 59)) (by rfl) rfl ?_ ?_
  · go_simp
    (try rfl)
  have N2 : (W1.drew.alloc (.cells #[.string ⟨#[]⟩, .nilFunc] 59)).heap[W1.heap.size]? = some (.cells #[.string ⟨#[]⟩, .nilFunc] 59) := blk_new W1.drew _
  have Q2 : Below W1.heap.size W1 (W1.drew.alloc (.cells #[.string ⟨#[]⟩, .nilFunc] 59)) := (below_drew (Below.refl _ _)).alloc (Nat.le_refl _) _
  have S2 := S1.below Q2
  have y72 : (W1.drew.alloc (.cells #[.string ⟨#[]⟩, .nilFunc] 59)).cell? ⟨g, 7, none⟩ = some (.map (some r)) := (blk_cell S2.own 7).trans rfl
  have z02 := (Q2.cell (World.block_lt_of_cell? _ _ z0)).trans z0
  have l2 := hlk _ S2.map
  generalize W1.drew.alloc (.cells #[.string ⟨#[]⟩, .nilFunc] 59) = W2 at N2 Q2 S2 y72 z02 l2 ⊢
  refine hK.out _ _ (⟨y72, z02, l2⟩) (fun hHeld => ?_)
  clear hK K
  refine norm_ (a' := ?_) ?_ ?_
  rotate_left
  · show Act.put _ (some 7) _ = _
    simp only [Act.put, List.setIfInBounds_toArray, List.set_cons_zero, List.set_cons_succ, i64_w, i32_w]
    rfl
  refine last_ (i := 12) (N := none) #[true, true, true, true, true, true, true, true, true, true, true, true, true, false] rfl rfl (by kernel_rfl) (by decide) (fun K hK => ?_)
  have n0 : W2.cell? ⟨W1.heap.size, 0, none⟩ = some (.string ⟨#[]⟩) := (blk_cell N2 0).trans rfl
  have f0 := blk_frozen N2 0
  have N3 := blk_set N2 0 (.string ⟨#[110]⟩)
  have n1 : (W2.setCell ⟨W1.heap.size, 0, none⟩ (.string ⟨#[110]⟩)).cell? ⟨W1.heap.size, 1, none⟩ = some .nilFunc := (blk_cell N3 1).trans rfl
  have f1 := blk_frozen N3 1
  have N4 : ((W2.setCell ⟨W1.heap.size, 0, none⟩ (.string ⟨#[110]⟩)).setCell ⟨W1.heap.size, 1, none⟩ (.func (.func 58) #[] #[.pointer (some ⟨q0, 0, none⟩), .pointer (some ⟨q1, 0, none⟩)])).heap[W1.heap.size]? = some (.cells #[.string ⟨#[110]⟩, .func (.func 58) #[] #[.pointer (some ⟨q0, 0, none⟩), .pointer (some ⟨q1, 0, none⟩)]] 59 (0, 0)) := blk_set N3 1 _
  have Q4 : Below W1.heap.size W1 ((W2.setCell ⟨W1.heap.size, 0, none⟩ (.string ⟨#[110]⟩)).setCell ⟨W1.heap.size, 1, none⟩ (.func (.func 58) #[] #[.pointer (some ⟨q0, 0, none⟩), .pointer (some ⟨q1, 0, none⟩)])) := (Q2.setCell (Nat.le_refl _) _).setCell (Nat.le_refl _) _
  refine skip_ (w1 := (W2.setCell ⟨W1.heap.size, 0, none⟩ (.string ⟨#[110]⟩)).setCell ⟨W1.heap.size, 1, none⟩ (.func (.func 58) #[] #[.pointer (some ⟨q0, 0, none⟩), .pointer (some ⟨q1, 0, none⟩)])) (by rfl) rfl ?_ ?_
  · go_simp
    (try rfl)
  clear n0 f0 n1 f1 N3
  generalize (W2.setCell ⟨W1.heap.size, 0, none⟩ (.string ⟨#[110]⟩)).setCell ⟨W1.heap.size, 1, none⟩ (.func (.func 58) #[] #[.pointer (some ⟨q0, 0, none⟩), .pointer (some ⟨q1, 0, none⟩)]) = W4 at N4 Q4 ⊢
  refine hK.out _ _ ?_
  clear hK K
  refine pure_ (i := 13) (N := some 8) (v := ?_) (a' := ?_) #[true, true, true, true, true, true, true, true, true, true, true, true, true, true] rfl rfl (by kernel_rfl) (fun _ _ _ h => h) (Or.inl ⟨by rfl, ?_⟩) ?_ ?_
  rotate_left
  · intro w'
    go_simp
    (try with_reducible rfl)
  rotate_left
  · simp only [Act.put, List.setIfInBounds_toArray, List.set_cons_zero, List.set_cons_succ, i64_w, i32_w]
    rfl
  refine done_ (by kernel_rfl) ?_
  go_wp2
  obtain ⟨ad1, hA1, hX1⟩ := words_rest ad HC1.out (Kd.R_reads' HR1.out).2.1
  have S4 := S1.below Q4
  have x4 : W4.cell? ⟨W1.heap.size, 0, none⟩ = some (.string ⟨#[110]⟩) := (blk_cell N4 0).trans rfl
  have hS7 : (fun w' => w'.cell? ⟨W1.heap.size, 0, none⟩ = some (.string ⟨#[110]⟩)) W4.drew := x4
  refine start_ (n := 12) (S := fun w' => w'.cell? ⟨W1.heap.size, 0, none⟩ = some (.string ⟨#[110]⟩)) (ds := []) #[false, false, false, false, false, false, false, false, false, false, false, false] (by kernel_rfl) rfl rfl ?st0 (fun hHeld => ?_)
  case st0 => exact hS7
  refine pure_ (i := 0) (N := some 36) (v := ?_) (a' := ?_) #[true, false, false, false, false, false, false, false, false, false, false, false] rfl rfl (by kernel_rfl) (fun _ _ _ h => h) (Or.inl ⟨by rfl, ?_⟩) ?_ ?_
  rotate_left
  · intro w'
    go_simp
    (try with_reducible rfl)
  rotate_left
  · simp only [Act.put, List.setIfInBounds_toArray, List.set_cons_zero, List.set_cons_succ, i64_w, i32_w]
    rfl
  refine pure_ (i := 1) (N := some 37) (v := ?_) (a' := ?_) #[true, true, false, false, false, false, false, false, false, false, false, false] rfl rfl (by kernel_rfl) (fun _ _ _ h => h) (Or.inl ⟨by rfl, ?_⟩) ?_ ?_
  rotate_left
  · intro w'
    go_simp
    (try with_reducible rfl)
  rotate_left
  · simp only [Act.put, List.setIfInBounds_toArray, List.set_cons_zero, List.set_cons_succ, i64_w, i32_w]
    rfl
  refine pure_ (i := 2) (N := some 38) (v := ?_) (a' := ?_) #[true, true, true, false, false, false, false, false, false, false, false, false] rfl rfl (by kernel_rfl) (fun _ _ _ h => h) (Or.inl ⟨by rfl, ?_⟩) ?_ ?_
  rotate_left
  · intro w'
    go_simp
    (try with_reducible rfl)
  rotate_left
  · simp only [Act.put, List.setIfInBounds_toArray, List.set_cons_zero, List.set_cons_succ, i64_w, i32_w]
    rfl
  refine take_ (i := 3) (N := some 39) (v := ?_) (a' := ?_) #[true, true, true, true, false, false, false, false, false, false, false, false] rfl rfl (by kernel_rfl) (fun _ _ _ h => h) (Or.inl ⟨by rfl, ?_⟩) hHeld ?_ ?_
  rotate_left
  · rintro w' s0
    go_simp
    (try with_reducible rfl)
  rotate_left
  · simp only [Act.put, List.setIfInBounds_toArray, List.set_cons_zero, List.set_cons_succ, i64_w, i32_w]
    rfl
  refine one_ (i := 4) (N := some 40) #[true, true, true, true, true, false, false, false, false, false, false, false] rfl rfl (by kernel_rfl) (by decide) (fun K hK => ?_)
  refine goes_ Tryz.func22 (by kernel_rfl) rfl #[.slice (some ad1) 1 (cap - 1), .string ⟨#[110]⟩] (by rfl) rfl rfl (by (try simp only [List.map_toArray, List.map_cons, List.map_nil]); first | done | rfl) ?_
  refine (KS _ _ W4.drew ((congrArg _ (show ad1 = ad1.add 0 from by cases ad1; rfl)).trans (((below_drew Q4).cell (World.block_lt_of_cell? _ _ (hX1 0 _ rfl))).trans (hX1 0 _ rfl)))).mono ?_
  rintro e W5 ⟨rfl, hb5⟩
  have S5 := S4.below (b_tr (below_drew (Below.refl _ _)) hb5)
  refine ⟨_, rfl, ?_⟩
  refine hK.out _ _ ((hb5.cell (blk_lt N4)).trans x4) (fun hHeld => ?_)
  clear hK K
  refine norm_ (a' := ?_) ?_ ?_
  rotate_left
  · show Act.put _ (some 40) _ = _
    simp only [Act.put, List.setIfInBounds_toArray, List.set_cons_zero, List.set_cons_succ, i64_w, i32_w]
    rfl
  refine pure_ (i := 5) (N := some 35) (v := ?_) (a' := ?_) #[true, true, true, true, true, true, false, false, false, false, false, false] rfl rfl (by kernel_rfl) (fun _ _ _ h => h) (Or.inl ⟨by rfl, ?_⟩) ?_ ?_
  rotate_left
  · intro w'
    go_simp
    (try with_reducible rfl)
  rotate_left
  · simp only [Act.put, List.setIfInBounds_toArray, List.set_cons_zero, List.set_cons_succ, i64_w, i32_w]
    rfl
  refine pure_ (i := 6) (N := some 41) (v := ?_) (a' := ?_) #[true, true, true, true, true, true, true, false, false, false, false, false] rfl rfl (by kernel_rfl) (fun _ _ _ h => h) (Or.inl ⟨by rfl, ?_⟩) ?_ ?_
  rotate_left
  · intro w'
    go_simp
    (try with_reducible rfl)
  rotate_left
  · simp only [Act.put, List.setIfInBounds_toArray, List.set_cons_zero, List.set_cons_succ, i64_w, i32_w]
    rfl
  refine pure_ (i := 7) (N := some 42) (v := ?_) (a' := ?_) #[true, true, true, true, true, true, true, true, false, false, false, false] rfl rfl (by kernel_rfl) (fun _ _ _ h => h) (Or.inl ⟨by rfl, ?_⟩) ?_ ?_
  rotate_left
  · intro w'
    go_simp
    (try with_reducible rfl)
  rotate_left
  · simp only [Act.put, List.setIfInBounds_toArray, List.set_cons_zero, List.set_cons_succ, i64_w, i32_w]
    rfl
  refine pure_ (i := 8) (N := some 43) (v := ?_) (a' := ?_) #[true, true, true, true, true, true, true, true, true, false, false, false] rfl rfl (by kernel_rfl) (fun _ _ _ h => h) (Or.inl ⟨by rfl, ?_⟩) ?_ ?_
  rotate_left
  · intro w'
    go_simp
    (try with_reducible rfl)
  rotate_left
  · simp only [Act.put, List.setIfInBounds_toArray, List.set_cons_zero, List.set_cons_succ, i64_w, i32_w]
    rfl
  refine pure_ (i := 9) (N := some 9) (v := ?_) (a' := ?_) #[true, true, true, true, true, true, true, true, true, true, false, false] rfl rfl (by kernel_rfl) (fun _ _ _ h => h) (Or.inl ⟨by rfl, ?_⟩) ?_ ?_
  rotate_left
  · intro w'
    go_simp
    (try with_reducible rfl)
  rotate_left
  · simp only [Act.put, List.setIfInBounds_toArray, List.set_cons_zero, List.set_cons_succ, i64_w, i32_w]
    rfl
  refine pure_ (i := 10) (N := some 10) (v := ?_) (a' := ?_) #[true, true, true, true, true, true, true, true, true, true, true, false] rfl rfl (by kernel_rfl) (fun _ _ _ h => h) (Or.inl ⟨by rfl, ?_⟩) ?_ ?_
  rotate_left
  · intro w'
    go_simp
    (try with_reducible rfl)
  rotate_left
  · simp only [Act.put, List.setIfInBounds_toArray, List.set_cons_zero, List.set_cons_succ, i64_w, i32_w]
    rfl
  refine pure_ (i := 11) (N := some 11) (v := ?_) (a' := ?_) #[true, true, true, true, true, true, true, true, true, true, true, true] rfl rfl (by kernel_rfl) (fun _ _ _ h => h) (Or.inl ⟨by rfl, ?_⟩) ?_ ?_
  rotate_left
  · intro w'
    go_simp
    (try with_reducible rfl)
  rotate_left
  · simp only [Act.put, List.setIfInBounds_toArray, List.set_cons_zero, List.set_cons_succ, i64_w, i32_w]
    rfl
  refine done_ (by kernel_rfl) ?_
  have x5 : W5.cell? ⟨W1.heap.size, 1, none⟩ = some (.func (.func 58) #[] #[.pointer (some ⟨q0, 0, none⟩), .pointer (some ⟨q1, 0, none⟩)]) := (hb5.cell (blk_lt N4)).trans ((blk_cell N4 1).trans rfl)
  have B5 := Aside0.mk (b_tr (b_tr B1.out Q4) (b_tr (below_drew (Below.refl _ _)) hb5))
  go_wp2_with (first

    | (go_at_call 21; (with_reducible refine (err_say 9 _ say_word _).mono ?_); rintro e w' ⟨rfl, hb⟩))
  go_ret
  exact ⟨rfl, S5.below hb, Kp.of (b_tr B5.out hb)⟩
end Go.Proofs.YtoamchhmehpgoaaGreatDoor.PSJ
