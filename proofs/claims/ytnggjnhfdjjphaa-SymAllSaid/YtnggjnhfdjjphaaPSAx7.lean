-- Written by the session's own program (wip/gen).
import Derived.Test.YtnggjnhfdjjphaaPSAx0
namespace Go.Proofs.Ytnggjnhfdjjphaa.PSA
open Go.RowKit Go.Proofs.YtnggjnhfdjjphaaW.PrintWords Go.Proofs.YtnggjnhfdjjphaaW.PrintLast Go.Proofs.YtnggjnhfdjjphaaW.PrintMore
attribute [local go_sem] max2_int min2_int max_two min_two max_three min_three max_four min_four   -- for this text's walks alone
set_option linter.unusedVariables false
set_option linter.unusedSimpArgs false

/-! ### sym_Turn: function 48 (by hand) -/
theorem turned_ret (r b : Int) (w : World) (h : b = if r = 49 then 48 else if r = 35 then 48 else if r = 48 then 49 else r) :
    Calls Try.prog 63 #[.int .u8 r] w fun e w' => e = .returned (.int .u8 b) ∧ w = w' := by
  subst h
  by_cases h1 : r = 49
  · have b1 : (r == 49) = true := by simp [h1]
    rw [if_pos h1]
    clear h1
    go_enter Try.func63, Try.ntmps63
    go_wp2
    go_ret
    exact ⟨rfl, rfl⟩
  · have b1 : (r == 49) = false := by simp [h1]
    rw [if_neg h1]
    by_cases h2 : r = 35
    · have b2 : (r == 35) = true := by simp [h2]
      rw [if_pos h2]
      clear h1 h2
      go_enter Try.func63, Try.ntmps63
      go_wp2
      go_ret
      exact ⟨rfl, rfl⟩
    · have b2 : (r == 35) = false := by simp [h2]
      rw [if_neg h2]
      by_cases h3 : r = 48
      · have b3 : (r == 48) = true := by simp [h3]
        rw [if_pos h3]
        clear h1 h2 h3
        go_enter Try.func63, Try.ntmps63
        go_wp2
        go_ret
        exact ⟨rfl, rfl⟩
      · have b3 : (r == 48) = false := by simp [h3]
        rw [if_neg h3]
        clear h1 h2 h3
        go_enter Try.func63, Try.ntmps63
        go_wp2
        go_ret
        exact ⟨rfl, rfl⟩
theorem turn_out (a0 : ByteArray) (a1 : Int) (w : World) (h : a1 < 0 ∨ (a0.size : Int) ≤ a1) :
    Calls Try.prog 48 #[.string a0, .int .i64 a1] w fun e w' => e = .returned (.string a0) ∧ Below w.heap.size w w' := by
  by_cases h0 : a1 < 0
  · have b1 : decide (a1 < 0) = true := by simp [h0]
    clear h h0
    go_enter Try.func48, Try.ntmps48
    go_wp2
    go_ret
    exact ⟨rfl, Below.refl _ _⟩
  · have b1 : decide (a1 < 0) = false := by simp [h0]
    have b2 : decide ((a0.size : Int) ≤ a1) = true := by simp; omega
    clear h h0
    go_enter Try.func48, Try.ntmps48
    go_wp2
    go_ret
    exact ⟨rfl, Below.refl _ _⟩
/-- A byte, another one. -/
def turnedN (n : Nat) : Nat := if n = 49 then 48 else if n = 35 then 48 else if n = 48 then 49 else n
def turnB (s : ByteArray) (j : Nat) : ByteArray := strOfNums ((bytesOf s).set j (turnedN (s.data.toList.getD j 0).toNat))
theorem bytesWorld_unfrozen (w : World) (e : TypeId) (s : ByteArray) (j : Nat) (hj : j < s.size) : (Lib.bytesWorld w e s).frozen? ⟨w.heap.size, j, none⟩ = false := by
  have hz : s.size ≤ (Lib.bytesCells w e s).size := by
    unfold Lib.bytesCells
    rw [Array.size_append, Array.size_map]
    have : s.data.size = s.size := rfl
    omega
  simp [World.frozen?, Lib.bytesWorld_at_new]
  omega
theorem turn_in (a0 : ByteArray) (j : Nat) (w : World) (h : j < a0.size) :
    Calls Try.prog 48 #[.string a0, .int .i64 j] w fun e w' => e = .returned (.string (turnB a0 j)) ∧ Below w.heap.size w w' := by
  have b1 : decide ((j : Int) < 0) = false := by simp
  have b2 : decide (a0.size ≤ j) = false := by simpa using h
  have hc := fun (W : World) => Lib.run_convert_string_bytes (P := Try.prog) W 9 72 5 a0 Try.underlying9 Try.underlying72 Try.underlying5
  have hcell := Lib.bytesWorld_cell w 5 a0 j h
  have hz := bytesWorld_unfrozen w 5 a0 j h
  obtain ⟨c, hc0⟩ : ∃ c : Nat, c = (a0.data.toList.getD j 0).toNat := ⟨_, rfl⟩
  have hback : (convert 72 9 (.slice (some ⟨w.heap.size, 0, none⟩) a0.size (grownCap w a0.size 0 5))).run Try.prog ((Lib.bytesWorld w 5 a0).setCell ⟨w.heap.size, j, none⟩ (.int .u8 (turnedN c))) =
      .ok (.string (turnB a0 j)) ((Lib.bytesWorld w 5 a0).setCell ⟨w.heap.size, j, none⟩ (.int .u8 (turnedN c))) := by
    refine run_convert_bytes_arg _ 72 5 Try.underlying72 Try.underlying5 w.heap.size 0 a0.size _ ((bytesOf a0).set j (turnedN (a0.data.toList.getD j 0).toNat)) (by rw [List.length_set, bytesOf_length]) ?_ 9 Try.underlying9
    intro i hi
    rw [Nat.zero_add]
    have hl : (bytesOf a0).length = a0.size := bytesOf_length a0
    by_cases e : i = j
    · subst e
      rw [World.cell?_setCell_same _ _ _ hcell, List.getD_eq_getElem?_getD, List.getElem?_set_self (by omega), hc0]
      rfl
    · rw [World.cell?_setCell_other _ _ _ _ (fun h_ => e (congrArg Addr.off h_).symm), Lib.bytesWorld_cell w 5 a0 i hi, List.getD_eq_getElem?_getD (l := (bytesOf a0).set _ _), List.getElem?_set_ne (by omega)]
      have h' : i < a0.data.toList.length := by rw [data_length]; exact hi
      simp [bytesOf, List.getD_eq_getElem?_getD, List.getElem?_eq_getElem h']
  rw [← hc0] at hcell
  have HT : Aside0 ((turnedN c : Int) = if (c : Int) = 49 then 48 else if (c : Int) = 35 then 48 else if (c : Int) = 48 then 49 else (c : Int)) := ⟨by
    unfold turnedN
    repeat' split
    all_goals omega⟩
  clear hc0
  have HBW : Aside0 (Below w.heap.size w ((Lib.bytesWorld w 5 a0).setCell ⟨w.heap.size, j, none⟩ (.int .u8 (turnedN c)))) := ⟨(bytes_below (Below.refl _ _) (Nat.le_refl _) 5 a0).setCell (by simp) _⟩
  go_enter Try.func48, Try.ntmps48
  go_wp2_with (go_at_call 63; refine (turned_ret _ _ _ HT.out).mono ?_; rintro e w' ⟨rfl, rfl⟩)
  go_ret
  exact ⟨rfl, HBW.out⟩
def sym_Turn.f (a0 : ByteArray) (a1 : Int) : Option ByteArray := some (if a1 < 0 ∨ (a0.size : Int) ≤ a1 then a0 else turnB a0 a1.toNat)
theorem sym_Turn.calls (a0 : ByteArray) (a1 : Int) (r : ByteArray) (w : World) (h : sym_Turn.f a0 a1 = some r) :
    Calls Try.prog 48 #[.string a0, .int .i64 a1] w fun e w' => e = .returned (.string r) ∧ Below w.heap.size w w' := by
  obtain rfl := Option.some.inj h
  by_cases hc : a1 < 0 ∨ (a0.size : Int) ≤ a1
  · rw [if_pos hc]
    exact turn_out a0 a1 w hc
  · rw [if_neg hc]
    obtain ⟨j, rfl⟩ := Int.eq_ofNat_of_zero_le (show 0 ≤ a1 by omega)
    exact turn_in a0 j w (by omega)

end Go.Proofs.Ytnggjnhfdjjphaa.PSA
