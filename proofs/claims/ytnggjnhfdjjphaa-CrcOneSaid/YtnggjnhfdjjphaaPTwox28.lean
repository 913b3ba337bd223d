-- Written by the session's own program (wip/gen).
import Derived.Test.YtnggjnhfdjjphaaPTwox0
namespace Go.Proofs.Ytnggjnhfdjjphaa.PTwo
open Go.RowKit Go.Proofs.YtnggjnhfdjjphaaW.PrintWords Go.Proofs.YtnggjnhfdjjphaaW.PrintLast Go.Proofs.YtnggjnhfdjjphaaW.PrintMore
attribute [local go_sem] max2_int min2_int max_two min_two max_three min_three max_four min_four   -- for this text's walks alone
set_option linter.unusedVariables false
set_option linter.unusedSimpArgs false

/-! ### sym_turned: function 63 -/
def sym_turned.j0 : Nat → Int → Int → Bool → Option (Int)
  | 0, _, _, _ => none
  | k + 1, x0, x3, x4 => if x4 = true then (some 48) else (if x3 = 48 then (some 49) else (some x0))
def sym_turned.f (k : Nat) (a0 : Int) : Option (Int) := if a0 = 49 then (sym_turned.j0 k a0 a0 (a0 == 49)) else (sym_turned.j0 k a0 a0 (a0 == 35))
theorem sym_turned.mono_l : ∀ k, (∀ y0 y1 y2, LeO (sym_turned.j0 k y0 y1 y2) (sym_turned.j0 (k + 1) y0 y1 y2))
  | 0 => fun _ _ _ r h => by simp [sym_turned.j0] at h
  | k + 1 => by
    have ih0 := sym_turned.mono_l k
    · intro y0 y1 y2
      unfold sym_turned.j0
      repeat' first
      | (with_reducible exact ih0 _ _ _)
      | (with_reducible exact LeO.refl _)
      | (with_reducible exact LeO.none _)
      | (with_reducible refine LeO.ite ?_ ?_)
      | (with_reducible refine LeO.bind ?_ (fun _ => ?_))
      | exact ih0 _ _ _
      | exact LeO.none _
      | refine LeO.ite ?_ ?_
      | refine LeO.bind ?_ (fun _ => ?_)
theorem sym_turned.mono : ∀ a0 k, LeO (sym_turned.f k a0) (sym_turned.f (k + 1) a0) := by
  intro a0 k
  have ih0 := sym_turned.mono_l k
  unfold sym_turned.f
  repeat' first
      | (with_reducible exact ih0 _ _ _)
      | (with_reducible exact LeO.refl _)
      | (with_reducible exact LeO.none _)
      | (with_reducible refine LeO.ite ?_ ?_)
      | (with_reducible refine LeO.bind ?_ (fun _ => ?_))
      | exact ih0 _ _ _
      | exact LeO.none _
      | refine LeO.ite ?_ ?_
      | refine LeO.bind ?_ (fun _ => ?_)
set_option maxHeartbeats 8000000 in
set_option maxRecDepth 100000 in
theorem sym_turned.calls (k : Nat) (a0 : Int) (r : Int) (w : World) (h : sym_turned.f k a0 = some r) :
    Calls Try.prog 63 #[.int .u8 a0] w fun e w' => e = .returned (.int .u8 r) ∧ Drawn0 w w' := by
  have H : (if a0 = 49 then (sym_turned.j0 k a0 a0 (a0 == 49)) else (sym_turned.j0 k a0 a0 (a0 == 35))) = some r := h
  clear h
  have HC2 := Aside0.mk H
  clear H
  go_enter Try.func63, Try.ntmps63
  go_upto_if 4 with (fail)
  go_cut [4] (fun v4 wc => ∃ (kq : Nat) (x4_1 : Bool), v4 = .bool x4_1 ∧ Aside0 (sym_turned.j0 kq a0 a0 x4_1 = some r) ∧ Aside0 (kq ≤ k) ∧ Drawn0 w wc)
  case first =>
    have H := HC2.out
    clear HC2
    by_cases c3 : a0 = 49
    · rw [if_pos c3] at H
      have c3b0 : (a0 == 49) = true := beq_iff_eq.mpr c3
      have c3b1 : (a0 != 49) = false := bne_eq_false_iff_eq.mpr c3
      clear c3
      (first | rw [c3b0] | (simp only [i64_w, i32_w]; rw [c3b0]) | skip)
      have H' := Aside0.mk H
      clear H
      go_wp2
      go_meet
      case rel => exact ⟨_, ((a0 == 49)), (by first | rfl | (simp; done) | (simp [*]; done)), H', ⟨by first | omega | exact Nat.le_refl _⟩, by repeat (first | exact Drawn0.refl _ | apply Drawn0.step)⟩
    · rw [if_neg c3] at H
      have c3b0 : (a0 == 49) = false := beq_eq_false_iff_ne.mpr c3
      have c3b1 : (a0 != 49) = true := bne_iff_ne.mpr c3
      (first | rw [c3b0] | (simp only [i64_w, i32_w]; rw [c3b0]) | skip)
      have H' := Aside0.mk H
      clear H
      go_wp2
      go_meet
      case rel => exact ⟨_, ((a0 == 35)), (by first | rfl | (simp; done) | (simp [*]; done)), H', ⟨by first | omega | exact Nat.le_refl _⟩, by repeat (first | exact Drawn0.refl _ | apply Drawn0.step)⟩
  case rest =>
    clear HC2
    try clear p2
    try clear c3
    try clear c3b0
    try clear c3b1
    obtain ⟨kq, x4_1, rfl, HA, HJ1, ⟨mc1, rfl⟩⟩ := hcut
    cases kq with
    | zero => exact absurd HA.out (by simp [sym_turned.j0])
    | succ kj1 =>
      have H := HA.out
      clear HA
      simp only [sym_turned.j0] at H
      by_cases c4 : x4_1 = true
      · subst c4
        have H1 : (some 48) = some r := by rw [if_pos rfl] at H; exact H
        clear H
        have H := H1
        clear H1
        obtain rfl := Option.some.inj H
        go_wp2
        go_ret
        exact ⟨by first | rfl | (simp; done) | (simp [*]; done), by repeat (first | exact Drawn0.refl _ | apply Drawn0.step)⟩
      · replace c4 := Bool.eq_false_iff.mpr c4
        subst c4
        have H1 : (if a0 = 48 then (some 49) else (some a0)) = some r := by rw [if_neg (show ¬ (false = true) by decide)] at H; exact H
        clear H
        have H := H1
        clear H1
        by_cases c5 : a0 = 48
        · rw [if_pos c5] at H
          have c5b0 : (a0 == 48) = true := beq_iff_eq.mpr c5
          have c5b1 : (a0 != 48) = false := bne_eq_false_iff_eq.mpr c5
          clear c5
          obtain rfl := Option.some.inj H
          go_wp2
          go_ret
          exact ⟨by first | rfl | (simp; done) | (simp [*]; done), by repeat (first | exact Drawn0.refl _ | apply Drawn0.step)⟩
        · rw [if_neg c5] at H
          have c5b0 : (a0 == 48) = false := beq_eq_false_iff_ne.mpr c5
          have c5b1 : (a0 != 48) = true := bne_iff_ne.mpr c5
          obtain rfl := Option.some.inj H
          go_wp2
          go_ret
          exact ⟨by first | rfl | (simp; done) | (simp [*]; done), by repeat (first | exact Drawn0.refl _ | apply Drawn0.step)⟩

/-! ### sym_Turn: function 48 (by hand) -/
theorem turned_ret (r b : Int) (w : World) (h : b = if r = 49 then 48 else if r = 35 then 48 else if r = 48 then 49 else r) :
    Calls Try.prog 63 #[.int .u8 r] w fun e w' => e = .returned (.int .u8 b) ∧ w = w' := by
  subst h
  by_cases h1 : r = 49
  · have b1 : (r == 49) = true := by simp [h1]
    rw [if_pos h1]
    clear h1
    go_enter Try.func63, Try.ntmps63
    go_wp2
    go_ret
    exact ⟨rfl, rfl⟩
  · have b1 : (r == 49) = false := by simp [h1]
    rw [if_neg h1]
    by_cases h2 : r = 35
    · have b2 : (r == 35) = true := by simp [h2]
      rw [if_pos h2]
      clear h1 h2
      go_enter Try.func63, Try.ntmps63
      go_wp2
      go_ret
      exact ⟨rfl, rfl⟩
    · have b2 : (r == 35) = false := by simp [h2]
      rw [if_neg h2]
      by_cases h3 : r = 48
      · have b3 : (r == 48) = true := by simp [h3]
        rw [if_pos h3]
        clear h1 h2 h3
        go_enter Try.func63, Try.ntmps63
        go_wp2
        go_ret
        exact ⟨rfl, rfl⟩
      · have b3 : (r == 48) = false := by simp [h3]
        rw [if_neg h3]
        clear h1 h2 h3
        go_enter Try.func63, Try.ntmps63
        go_wp2
        go_ret
        exact ⟨rfl, rfl⟩
theorem turn_out (a0 : ByteArray) (a1 : Int) (w : World) (h : a1 < 0 ∨ (a0.size : Int) ≤ a1) :
    Calls Try.prog 48 #[.string a0, .int .i64 a1] w fun e w' => e = .returned (.string a0) ∧ Below w.heap.size w w' := by
  by_cases h0 : a1 < 0
  · have b1 : decide (a1 < 0) = true := by simp [h0]
    clear h h0
    go_enter Try.func48, Try.ntmps48
    go_wp2
    go_ret
    exact ⟨rfl, Below.refl _ _⟩
  · have b1 : decide (a1 < 0) = false := by simp [h0]
    have b2 : decide ((a0.size : Int) ≤ a1) = true := by simp; omega
    clear h h0
    go_enter Try.func48, Try.ntmps48
    go_wp2
    go_ret
    exact ⟨rfl, Below.refl _ _⟩
/-- A byte, another one. -/
def turnedN (n : Nat) : Nat := if n = 49 then 48 else if n = 35 then 48 else if n = 48 then 49 else n
def turnB (s : ByteArray) (j : Nat) : ByteArray := strOfNums ((bytesOf s).set j (turnedN (s.data.toList.getD j 0).toNat))
theorem bytesWorld_unfrozen (w : World) (e : TypeId) (s : ByteArray) (j : Nat) (hj : j < s.size) : (Lib.bytesWorld w e s).frozen? ⟨w.heap.size, j, none⟩ = false := by
  have hz : s.size ≤ (Lib.bytesCells w e s).size := by
    unfold Lib.bytesCells
    rw [Array.size_append, Array.size_map]
    have : s.data.size = s.size := rfl
    omega
  simp [World.frozen?, Lib.bytesWorld_at_new]
  omega
theorem turn_in (a0 : ByteArray) (j : Nat) (w : World) (h : j < a0.size) :
    Calls Try.prog 48 #[.string a0, .int .i64 j] w fun e w' => e = .returned (.string (turnB a0 j)) ∧ Below w.heap.size w w' := by
  have b1 : decide ((j : Int) < 0) = false := by simp
  have b2 : decide (a0.size ≤ j) = false := by simpa using h
  have hc := fun (W : World) => Lib.run_convert_string_bytes (P := Try.prog) W 9 72 5 a0 Try.underlying9 Try.underlying72 Try.underlying5
  have hcell := Lib.bytesWorld_cell w 5 a0 j h
  have hz := bytesWorld_unfrozen w 5 a0 j h
  obtain ⟨c, hc0⟩ : ∃ c : Nat, c = (a0.data.toList.getD j 0).toNat := ⟨_, rfl⟩
  have hback : (convert 72 9 (.slice (some ⟨w.heap.size, 0, none⟩) a0.size (grownCap w a0.size 0 5))).run Try.prog ((Lib.bytesWorld w 5 a0).setCell ⟨w.heap.size, j, none⟩ (.int .u8 (turnedN c))) =
      .ok (.string (turnB a0 j)) ((Lib.bytesWorld w 5 a0).setCell ⟨w.heap.size, j, none⟩ (.int .u8 (turnedN c))) := by
    refine run_convert_bytes_arg _ 72 5 Try.underlying72 Try.underlying5 w.heap.size 0 a0.size _ ((bytesOf a0).set j (turnedN (a0.data.toList.getD j 0).toNat)) (by rw [List.length_set, bytesOf_length]) ?_ 9 Try.underlying9
    intro i hi
    rw [Nat.zero_add]
    have hl : (bytesOf a0).length = a0.size := bytesOf_length a0
    by_cases e : i = j
    · subst e
      rw [World.cell?_setCell_same _ _ _ hcell, List.getD_eq_getElem?_getD, List.getElem?_set_self (by omega), hc0]
      rfl
    · rw [World.cell?_setCell_other _ _ _ _ (fun h_ => e (congrArg Addr.off h_).symm), Lib.bytesWorld_cell w 5 a0 i hi, List.getD_eq_getElem?_getD (l := (bytesOf a0).set _ _), List.getElem?_set_ne (by omega)]
      have h' : i < a0.data.toList.length := by rw [data_length]; exact hi
      simp [bytesOf, List.getD_eq_getElem?_getD, List.getElem?_eq_getElem h']
  rw [← hc0] at hcell
  have HT : Aside0 ((turnedN c : Int) = if (c : Int) = 49 then 48 else if (c : Int) = 35 then 48 else if (c : Int) = 48 then 49 else (c : Int)) := ⟨by
    unfold turnedN
    repeat' split
    all_goals omega⟩
  clear hc0
  have HBW : Aside0 (Below w.heap.size w ((Lib.bytesWorld w 5 a0).setCell ⟨w.heap.size, j, none⟩ (.int .u8 (turnedN c)))) := ⟨(bytes_below (Below.refl _ _) (Nat.le_refl _) 5 a0).setCell (by simp) _⟩
  go_enter Try.func48, Try.ntmps48
  go_wp2_with (go_at_call 63; refine (turned_ret _ _ _ HT.out).mono ?_; rintro e w' ⟨rfl, rfl⟩)
  go_ret
  exact ⟨rfl, HBW.out⟩
def sym_Turn.f (a0 : ByteArray) (a1 : Int) : Option ByteArray := some (if a1 < 0 ∨ (a0.size : Int) ≤ a1 then a0 else turnB a0 a1.toNat)
theorem sym_Turn.calls (a0 : ByteArray) (a1 : Int) (r : ByteArray) (w : World) (h : sym_Turn.f a0 a1 = some r) :
    Calls Try.prog 48 #[.string a0, .int .i64 a1] w fun e w' => e = .returned (.string r) ∧ Below w.heap.size w w' := by
  obtain rfl := Option.some.inj h
  by_cases hc : a1 < 0 ∨ (a0.size : Int) ≤ a1
  · rw [if_pos hc]
    exact turn_out a0 a1 w hc
  · rw [if_neg hc]
    obtain ⟨j, rfl⟩ := Int.eq_ofNat_of_zero_le (show 0 ≤ a1 by omega)
    exact turn_in a0 j w (by omega)

end Go.Proofs.Ytnggjnhfdjjphaa.PTwo
