-- Written by the session's own program (wip/gen).
import Derived.Test.YtnggjnhfdjjphaaPSKx0
import Derived.Test.YtnggjnhfdjjphaaPSKx1
import Derived.Test.YtnggjnhfdjjphaaPSKx2
import Derived.Test.YtnggjnhfdjjphaaPSKx3
import Derived.Test.YtnggjnhfdjjphaaPSKx4
import Derived.Test.YtnggjnhfdjjphaaPSKx5
namespace Go.Proofs.Ytnggjnhfdjjphaa.PSK
open Go.RowKit Go.Proofs.YtnggjnhfdjjphaaW.PrintWords Go.Proofs.YtnggjnhfdjjphaaW.PrintLast Go.Proofs.YtnggjnhfdjjphaaW.PrintMore
attribute [local go_sem] max2_int min2_int max_two min_two max_three min_three max_four min_four   -- for this text's walks alone
set_option linter.unusedVariables false
set_option linter.unusedSimpArgs false

/-! ### sym_Turn: function 48 (by hand) -/
theorem turned_ret (r b : Int) (w : World) (h : b = if r = 49 then 48 else if r = 35 then 48 else if r = 48 then 49 else r) :
    Calls Try.prog 63 #[.int .u8 r] w fun e w' => e = .returned (.int .u8 b) ∧ w = w' := by
  subst h
  by_cases h1 : r = 49
  · have b1 : (r == 49) = true := by simp [h1]
    rw [if_pos h1]
    clear h1
    go_enter Try.func63, Try.ntmps63
    go_wp2
    go_ret
    exact ⟨rfl, rfl⟩
  · have b1 : (r == 49) = false := by simp [h1]
    rw [if_neg h1]
    by_cases h2 : r = 35
    · have b2 : (r == 35) = true := by simp [h2]
      rw [if_pos h2]
      clear h1 h2
      go_enter Try.func63, Try.ntmps63
      go_wp2
      go_ret
      exact ⟨rfl, rfl⟩
    · have b2 : (r == 35) = false := by simp [h2]
      rw [if_neg h2]
      by_cases h3 : r = 48
      · have b3 : (r == 48) = true := by simp [h3]
        rw [if_pos h3]
        clear h1 h2 h3
        go_enter Try.func63, Try.ntmps63
        go_wp2
        go_ret
        exact ⟨rfl, rfl⟩
      · have b3 : (r == 48) = false := by simp [h3]
        rw [if_neg h3]
        clear h1 h2 h3
        go_enter Try.func63, Try.ntmps63
        go_wp2
        go_ret
        exact ⟨rfl, rfl⟩
theorem turn_out (a0 : ByteArray) (a1 : Int) (w : World) (h : a1 < 0 ∨ (a0.size : Int) ≤ a1) :
    Calls Try.prog 48 #[.string a0, .int .i64 a1] w fun e w' => e = .returned (.string a0) ∧ Below w.heap.size w w' := by
  by_cases h0 : a1 < 0
  · have b1 : decide (a1 < 0) = true := by simp [h0]
    clear h h0
    go_enter Try.func48, Try.ntmps48
    go_wp2
    go_ret
    exact ⟨rfl, Below.refl _ _⟩
  · have b1 : decide (a1 < 0) = false := by simp [h0]
    have b2 : decide ((a0.size : Int) ≤ a1) = true := by simp; omega
    clear h h0
    go_enter Try.func48, Try.ntmps48
    go_wp2
    go_ret
    exact ⟨rfl, Below.refl _ _⟩
/-- A byte, another one. -/
def turnedN (n : Nat) : Nat := if n = 49 then 48 else if n = 35 then 48 else if n = 48 then 49 else n
def turnB (s : ByteArray) (j : Nat) : ByteArray := strOfNums ((bytesOf s).set j (turnedN (s.data.toList.getD j 0).toNat))
theorem bytesWorld_unfrozen (w : World) (e : TypeId) (s : ByteArray) (j : Nat) (hj : j < s.size) : (Lib.bytesWorld w e s).frozen? ⟨w.heap.size, j, none⟩ = false := by
  have hz : s.size ≤ (Lib.bytesCells w e s).size := by
    unfold Lib.bytesCells
    rw [Array.size_append, Array.size_map]
    have : s.data.size = s.size := rfl
    omega
  simp [World.frozen?, Lib.bytesWorld_at_new]
  omega
theorem turn_in (a0 : ByteArray) (j : Nat) (w : World) (h : j < a0.size) :
    Calls Try.prog 48 #[.string a0, .int .i64 j] w fun e w' => e = .returned (.string (turnB a0 j)) ∧ Below w.heap.size w w' := by
  have b1 : decide ((j : Int) < 0) = false := by simp
  have b2 : decide (a0.size ≤ j) = false := by simpa using h
  have hc := fun (W : World) => Lib.run_convert_string_bytes (P := Try.prog) W 9 72 5 a0 Try.underlying9 Try.underlying72 Try.underlying5
  have hcell := Lib.bytesWorld_cell w 5 a0 j h
  have hz := bytesWorld_unfrozen w 5 a0 j h
  obtain ⟨c, hc0⟩ : ∃ c : Nat, c = (a0.data.toList.getD j 0).toNat := ⟨_, rfl⟩
  have hback : (convert 72 9 (.slice (some ⟨w.heap.size, 0, none⟩) a0.size (grownCap w a0.size 0 5))).run Try.prog ((Lib.bytesWorld w 5 a0).setCell ⟨w.heap.size, j, none⟩ (.int .u8 (turnedN c))) =
      .ok (.string (turnB a0 j)) ((Lib.bytesWorld w 5 a0).setCell ⟨w.heap.size, j, none⟩ (.int .u8 (turnedN c))) := by
    refine run_convert_bytes_arg _ 72 5 Try.underlying72 Try.underlying5 w.heap.size 0 a0.size _ ((bytesOf a0).set j (turnedN (a0.data.toList.getD j 0).toNat)) (by rw [List.length_set, bytesOf_length]) ?_ 9 Try.underlying9
    intro i hi
    rw [Nat.zero_add]
    have hl : (bytesOf a0).length = a0.size := bytesOf_length a0
    by_cases e : i = j
    · subst e
      rw [World.cell?_setCell_same _ _ _ hcell, List.getD_eq_getElem?_getD, List.getElem?_set_self (by omega), hc0]
      rfl
    · rw [World.cell?_setCell_other _ _ _ _ (fun h_ => e (congrArg Addr.off h_).symm), Lib.bytesWorld_cell w 5 a0 i hi, List.getD_eq_getElem?_getD (l := (bytesOf a0).set _ _), List.getElem?_set_ne (by omega)]
      have h' : i < a0.data.toList.length := by rw [data_length]; exact hi
      simp [bytesOf, List.getD_eq_getElem?_getD, List.getElem?_eq_getElem h']
  rw [← hc0] at hcell
  have HT : Aside0 ((turnedN c : Int) = if (c : Int) = 49 then 48 else if (c : Int) = 35 then 48 else if (c : Int) = 48 then 49 else (c : Int)) := ⟨by
    unfold turnedN
    repeat' split
    all_goals omega⟩
  clear hc0
  have HBW : Aside0 (Below w.heap.size w ((Lib.bytesWorld w 5 a0).setCell ⟨w.heap.size, j, none⟩ (.int .u8 (turnedN c)))) := ⟨(bytes_below (Below.refl _ _) (Nat.le_refl _) 5 a0).setCell (by simp) _⟩
  go_enter Try.func48, Try.ntmps48
  go_wp2_with (go_at_call 63; refine (turned_ret _ _ _ HT.out).mono ?_; rintro e w' ⟨rfl, rfl⟩)
  go_ret
  exact ⟨rfl, HBW.out⟩
def sym_Turn.f (a0 : ByteArray) (a1 : Int) : Option ByteArray := some (if a1 < 0 ∨ (a0.size : Int) ≤ a1 then a0 else turnB a0 a1.toNat)
theorem sym_Turn.calls (a0 : ByteArray) (a1 : Int) (r : ByteArray) (w : World) (h : sym_Turn.f a0 a1 = some r) :
    Calls Try.prog 48 #[.string a0, .int .i64 a1] w fun e w' => e = .returned (.string r) ∧ Below w.heap.size w w' := by
  obtain rfl := Option.some.inj h
  by_cases hc : a1 < 0 ∨ (a0.size : Int) ≤ a1
  · rw [if_pos hc]
    exact turn_out a0 a1 w hc
  · rw [if_neg hc]
    obtain ⟨j, rfl⟩ := Int.eq_ofNat_of_zero_le (show 0 ≤ a1 by omega)
    exact turn_in a0 j w (by omega)

/-! ### plaitinglaw1_SymKnown: function 22 (by hand) -/
theorem kc0 : sym_Clean.f ⟨#[]⟩ = some ⟨#[]⟩ := by kernel_rfl
theorem kc1 : sym_Clean.f ⟨#[48, 49, 35, 49, 48]⟩ = some ⟨#[48, 49, 35]⟩ := by kernel_rfl
theorem kc2 : sym_Clean.f ⟨#[35]⟩ = some ⟨#[35]⟩ := by kernel_rfl
theorem kc3 : sym_Clean.f ⟨#[46, 48]⟩ = some ⟨#[]⟩ := by kernel_rfl
theorem kc4 : sym_Clean.f ⟨#[48, 195, 169]⟩ = some ⟨#[48]⟩ := by kernel_rfl
theorem ko0 : sym_Common.f 10 ⟨#[48, 49, 49, 48]⟩ ⟨#[48, 49, 48, 49]⟩ = some ⟨#[48, 49]⟩ := by kernel_rfl
theorem ko1 : sym_Common.f 10 ⟨#[]⟩ ⟨#[49]⟩ = some ⟨#[]⟩ := by kernel_rfl
theorem ko2 : sym_Common.f 10 ⟨#[49, 35]⟩ ⟨#[49, 35]⟩ = some ⟨#[49, 35]⟩ := by kernel_rfl
theorem kf0 : sym_Front.f ⟨#[]⟩ ⟨#[120]⟩ = some true := by kernel_rfl
theorem kf1 : sym_Front.f ⟨#[97, 98]⟩ ⟨#[97, 98]⟩ = some true := by kernel_rfl
theorem kf2 : sym_Front.f ⟨#[97, 98]⟩ ⟨#[97]⟩ = some false := by kernel_rfl
theorem kw0 : sym_Whole.f ⟨#[48, 35]⟩ = some true := by kernel_rfl
theorem kw1 : sym_Whole.f ⟨#[35]⟩ = some true := by kernel_rfl
theorem kw2 : sym_Whole.f ⟨#[]⟩ = some false := by kernel_rfl
theorem kw3 : sym_Whole.f ⟨#[48, 49]⟩ = some false := by kernel_rfl
theorem kw4 : sym_Whole.f ⟨#[48, 35, 35]⟩ = some false := by kernel_rfl
theorem kw5 : sym_Whole.f ⟨#[120, 35]⟩ = some false := by kernel_rfl
theorem kt0 : sym_Turn.f ⟨#[48, 49, 35]⟩ (0) = some ⟨#[49, 49, 35]⟩ := by kernel_rfl
theorem kt1 : sym_Turn.f ⟨#[48, 49, 35]⟩ (1) = some ⟨#[48, 48, 35]⟩ := by kernel_rfl
theorem kt2 : sym_Turn.f ⟨#[48, 49, 35]⟩ (2) = some ⟨#[48, 49, 48]⟩ := by kernel_rfl
theorem kt3 : sym_Turn.f ⟨#[48, 49, 35]⟩ (3) = some ⟨#[48, 49, 35]⟩ := by kernel_rfl
theorem kt4 : sym_Turn.f ⟨#[120]⟩ (0) = some ⟨#[120]⟩ := by kernel_rfl
theorem kt5 : sym_Turn.f ⟨#[48]⟩ (-1) = some ⟨#[48]⟩ := by kernel_rfl
theorem kb0 : sym_Bits.f 70 (6) (4) = some ⟨#[48, 49, 49, 48]⟩ := by kernel_rfl
theorem kb1 : sym_Bits.f 70 (-1) (3) = some ⟨#[49, 49, 49]⟩ := by kernel_rfl
theorem kb2 : sym_Bits.f 70 (16) (4) = some ⟨#[48, 48, 48, 48]⟩ := by kernel_rfl
theorem kb3 : sym_Bits.f 70 (5) (0) = some ⟨#[]⟩ := by kernel_rfl
theorem kb4 : sym_Bits.f 70 (5) (63) = some ⟨#[]⟩ := by kernel_rfl
theorem kb5 : sym_Bits.f 70 (1) (62) = some ⟨#[48, 48, 48, 48, 48, 48, 48, 48, 48, 48, 48, 48, 48, 48, 48, 48, 48, 48, 48, 48, 48, 48, 48, 48, 48, 48, 48, 48, 48, 48, 48, 48, 48, 48, 48, 48, 48, 48, 48, 48, 48, 48, 48, 48, 48, 48, 48, 48, 48, 48, 48, 48, 48, 48, 48, 48, 48, 48, 48, 48, 48, 49]⟩ := by kernel_rfl
theorem cells12 (W : World) (n : Nat) (h : n < 12) : (W.alloc (.cells #[.bool true, .bool true, .bool true, .bool true, .bool true, .bool true, .bool true, .bool true, .bool true, .bool true, .bool true, .bool true] 4)).cell? ⟨W.heap.size, n, none⟩ = some (.bool true) := by
  unfold World.cell?
  rw [heap_alloc_new]
  match n, h with
  | 0, _ => rfl
  | 1, _ => rfl
  | 2, _ => rfl
  | 3, _ => rfl
  | 4, _ => rfl
  | 5, _ => rfl
  | 6, _ => rfl
  | 7, _ => rfl
  | 8, _ => rfl
  | 9, _ => rfl
  | 10, _ => rfl
  | 11, _ => rfl
theorem kk : plaitinglaw1_known.f 70 = some true := by kernel_rfl
set_option maxHeartbeats 8000000 in
set_option maxRecDepth 100000 in
theorem known_walk (a0 r : Int) (hw : plaitinglaw1_within.f a0 12 = some r) (r0 : 0 ≤ r) (r1 : r < 12) (w : World) : Calls Try.prog 22 #[.int .i64 a0] w fun e w' => e = .returned (.bool true) ∧ Below w.heap.size w w' := by
  have HB := Aside0.mk (Below.refl w.heap.size w)
  have d0 : decide (0 ≤ r) = true := decide_eq_true r0
  have d1 : decide (r < 12) = true := decide_eq_true r1
  go_enter Try.func22, Try.ntmps22
  go_wp2_with (first
    | (go_at_call 37; refine (plaitinglaw1_known.calls 70 true _ kk).mono ?_; rintro e W ⟨rfl, hb⟩; have n_ := Aside0.mk (below_step (by repeat (first | (with_reducible first | exact HB.out | apply below_alloc | apply pw_below_drewN | apply below_drew1) | exact HB.out)) hb); clear HB hb; have HB := n_; clear n_)
    | (go_at_call 38; (first | with_reducible refine (sym_Clean.calls ⟨#[]⟩ ⟨#[]⟩ _ kc0).mono ?_ | with_reducible refine (sym_Clean.calls ⟨#[48, 49, 35, 49, 48]⟩ ⟨#[48, 49, 35]⟩ _ kc1).mono ?_ | with_reducible refine (sym_Clean.calls ⟨#[35]⟩ ⟨#[35]⟩ _ kc2).mono ?_ | with_reducible refine (sym_Clean.calls ⟨#[46, 48]⟩ ⟨#[]⟩ _ kc3).mono ?_ | with_reducible refine (sym_Clean.calls ⟨#[48, 195, 169]⟩ ⟨#[48]⟩ _ kc4).mono ?_); rintro e W ⟨rfl, hb⟩; have n_ := Aside0.mk (below_step (by repeat (first | (with_reducible first | exact HB.out | apply below_alloc | apply pw_below_drewN | apply below_drew1) | exact HB.out)) hb); clear HB hb; have HB := n_; clear n_)
    | (go_at_call 46; (first | with_reducible refine (sym_Common.calls 10 ⟨#[48, 49, 49, 48]⟩ ⟨#[48, 49, 48, 49]⟩ ⟨#[48, 49]⟩ _ ko0).mono ?_ | with_reducible refine (sym_Common.calls 10 ⟨#[]⟩ ⟨#[49]⟩ ⟨#[]⟩ _ ko1).mono ?_ | with_reducible refine (sym_Common.calls 10 ⟨#[49, 35]⟩ ⟨#[49, 35]⟩ ⟨#[49, 35]⟩ _ ko2).mono ?_); rintro e W ⟨rfl, hd⟩; have hb := hd.below; clear hd; have n_ := Aside0.mk (below_step (by repeat (first | (with_reducible first | exact HB.out | apply below_alloc | apply pw_below_drewN | apply below_drew1) | exact HB.out)) hb); clear HB hb; have HB := n_; clear n_)
    | (go_at_call 47; (first | with_reducible refine (sym_Front.calls ⟨#[]⟩ ⟨#[120]⟩ true _ kf0).mono ?_ | with_reducible refine (sym_Front.calls ⟨#[97, 98]⟩ ⟨#[97, 98]⟩ true _ kf1).mono ?_ | with_reducible refine (sym_Front.calls ⟨#[97, 98]⟩ ⟨#[97]⟩ false _ kf2).mono ?_); rintro e W ⟨rfl, hd⟩; have hb := hd.below; clear hd; have n_ := Aside0.mk (below_step (by repeat (first | (with_reducible first | exact HB.out | apply below_alloc | apply pw_below_drewN | apply below_drew1) | exact HB.out)) hb); clear HB hb; have HB := n_; clear n_)
    | (go_at_call 41; (first | with_reducible refine (sym_Whole.calls ⟨#[48, 35]⟩ true _ kw0).mono ?_ | with_reducible refine (sym_Whole.calls ⟨#[35]⟩ true _ kw1).mono ?_ | with_reducible refine (sym_Whole.calls ⟨#[]⟩ false _ kw2).mono ?_ | with_reducible refine (sym_Whole.calls ⟨#[48, 49]⟩ false _ kw3).mono ?_ | with_reducible refine (sym_Whole.calls ⟨#[48, 35, 35]⟩ false _ kw4).mono ?_ | with_reducible refine (sym_Whole.calls ⟨#[120, 35]⟩ false _ kw5).mono ?_); rintro e W ⟨rfl, hb⟩; have n_ := Aside0.mk (below_step (by repeat (first | (with_reducible first | exact HB.out | apply below_alloc | apply pw_below_drewN | apply below_drew1) | exact HB.out)) hb); clear HB hb; have HB := n_; clear n_)
    | (go_at_call 48; (first | with_reducible refine (sym_Turn.calls ⟨#[48, 49, 35]⟩ (0) ⟨#[49, 49, 35]⟩ _ kt0).mono ?_ | with_reducible refine (sym_Turn.calls ⟨#[48, 49, 35]⟩ (1) ⟨#[48, 48, 35]⟩ _ kt1).mono ?_ | with_reducible refine (sym_Turn.calls ⟨#[48, 49, 35]⟩ (2) ⟨#[48, 49, 48]⟩ _ kt2).mono ?_ | with_reducible refine (sym_Turn.calls ⟨#[48, 49, 35]⟩ (3) ⟨#[48, 49, 35]⟩ _ kt3).mono ?_ | with_reducible refine (sym_Turn.calls ⟨#[120]⟩ (0) ⟨#[120]⟩ _ kt4).mono ?_ | with_reducible refine (sym_Turn.calls ⟨#[48]⟩ (-1) ⟨#[48]⟩ _ kt5).mono ?_); rintro e W ⟨rfl, hb⟩; have n_ := Aside0.mk (below_step (by repeat (first | (with_reducible first | exact HB.out | apply below_alloc | apply pw_below_drewN | apply below_drew1) | exact HB.out)) hb); clear HB hb; have HB := n_; clear n_)
    | (go_at_call 45; (first | with_reducible refine (sym_Bits.calls 70 (6) (4) ⟨#[48, 49, 49, 48]⟩ _ kb0).mono ?_ | with_reducible refine (sym_Bits.calls 70 (-1) (3) ⟨#[49, 49, 49]⟩ _ kb1).mono ?_ | with_reducible refine (sym_Bits.calls 70 (16) (4) ⟨#[48, 48, 48, 48]⟩ _ kb2).mono ?_ | with_reducible refine (sym_Bits.calls 70 (5) (0) ⟨#[]⟩ _ kb3).mono ?_ | with_reducible refine (sym_Bits.calls 70 (5) (63) ⟨#[]⟩ _ kb4).mono ?_ | with_reducible refine (sym_Bits.calls 70 (1) (62) ⟨#[48, 48, 48, 48, 48, 48, 48, 48, 48, 48, 48, 48, 48, 48, 48, 48, 48, 48, 48, 48, 48, 48, 48, 48, 48, 48, 48, 48, 48, 48, 48, 48, 48, 48, 48, 48, 48, 48, 48, 48, 48, 48, 48, 48, 48, 48, 48, 48, 48, 48, 48, 48, 48, 48, 48, 48, 48, 48, 48, 48, 48, 49]⟩ _ kb5).mono ?_); rintro e W ⟨rfl, hb⟩; have n_ := Aside0.mk (below_step (by repeat (first | (with_reducible first | exact HB.out | apply below_alloc | apply pw_below_drewN | apply below_drew1) | exact HB.out)) hb); clear HB hb; have HB := n_; clear n_)
    | (go_at_call 44; with_reducible refine (plaitinglaw1_within.calls a0 12 r _ hw).mono ?_; rintro e W9 ⟨rfl, hd⟩; have hb := hd.below; clear hd; have hz := (hb.cell (p := ⟨W.heap.size, r.toNat, none⟩) (by simp)).trans (cells12 W r.toNat (by omega)); have n_ := Aside0.mk (below_step (by repeat (first | (with_reducible first | exact HB.out | apply below_alloc | apply pw_below_drewN | apply below_drew1) | exact HB.out)) hb); clear HB hb; have HB := n_; clear n_))
  go_ret
  exact ⟨rfl, HB.out⟩
/-- What SymKnown answers. -/
def plaitinglaw1_SymKnown.f (a0 : Int) : Option Bool := (plaitinglaw1_within.f a0 12).bind fun r => if 0 ≤ r ∧ r < 12 then some true else none
theorem plaitinglaw1_SymKnown.calls (a0 : Int) (r : Bool) (w : World) (h : plaitinglaw1_SymKnown.f a0 = some r) : Calls Try.prog 22 #[.int .i64 a0] w fun e w' => e = .returned (.bool r) ∧ Below w.heap.size w w' := by
  unfold plaitinglaw1_SymKnown.f at h
  obtain ⟨i, hi, h⟩ := Option.bind_eq_some_iff.1 h
  by_cases hr : 0 ≤ i ∧ i < 12
  · rw [if_pos hr] at h
    obtain rfl := Option.some.inj h
    exact known_walk a0 i hi hr.1 hr.2 w
  · rw [if_neg hr] at h
    exact absurd h (by simp)

/-- THE ONE PURE STATEMENT of plaitinglaw1_SymKnown: yours. -/
def plaitinglaw1_SymKnown.Pure : Prop := ∀ (a0 : Int), (Lit.int .i64 a0).wf = true → plaitinglaw1_SymKnown.f a0 = some true
theorem plaitinglaw1_SymKnown.walk (P : plaitinglaw1_SymKnown.Pure) (a0 : Int) (w : World) (w0 : (Lit.int .i64 a0).wf = true) :
    Calls Try.prog 22 #[.int .i64 a0] w fun e w' => e = .returned (.bool true) ∧ Below w.heap.size w w' := by
  have h := P a0 w0
  refine (plaitinglaw1_SymKnown.calls a0 true w h).mono ?_
  rintro e w' ⟨rfl, hd⟩
  exact ⟨rfl, hd⟩

end Go.Proofs.Ytnggjnhfdjjphaa.PSK
