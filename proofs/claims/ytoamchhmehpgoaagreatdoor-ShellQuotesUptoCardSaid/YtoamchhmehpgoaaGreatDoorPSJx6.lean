-- Written by the session's own program (wip/gen).
import Derived.Test.YtoamchhmehpgoaaGreatDoorRun
import Derived.Test.YtoamchhmehpgoaaGreatDoorPSJx0
namespace Go.Proofs.YtoamchhmehpgoaaGreatDoor.PSJ
open Go.RowKit Go.Proofs.YtoamchhmehpgoaaGreatDoorW.PrintWords Go.Proofs.YtoamchhmehpgoaaGreatDoorW.PrintLast Go.Proofs.YtoamchhmehpgoaaGreatDoorW.PrintMore
attribute [local go_sem] max2_int min2_int max_two min_two max_three min_three max_four min_four   -- for this text's walks alone
set_option linter.unusedVariables false
set_option linter.unusedSimpArgs false

-- NOT PRINTED: function 43 (stringslite_HasPrefix)

-- NOT PRINTED: function 95 (stringslite_TrimPrefix)

-- NOT PRINTED: function 63 (strings_TrimPrefix)

-- NOT PRINTED: function 194 (strconv_lower)

-- NOT PRINTED: function 195 (strconv_underscoreOK)

-- NOT PRINTED: function 170 (strconv_ParseUint)

-- NOT PRINTED: function 131 (strconv_ParseInt)

-- NOT PRINTED: function 96 (strconv_Atoi_96)

-- NOT PRINTED: function 171 (stringslite_Clone)

-- NOT PRINTED: function 132 (strconv_syntaxError)

-- NOT PRINTED: function 133 (strconv_rangeError)

-- NOT PRINTED: function 172 (errors_New)

-- NOT PRINTED: function 134 (strconv_baseError)

-- NOT PRINTED: function 135 (strconv_bitSizeError)

-- NOT PRINTED: function 97 (strconv_toError)

-- NOT PRINTED: function 64 (strconv_Atoi_64)

-- NOT PRINTED: function 40 (shell_number)

-- NOT PRINTED: function 22 (shell_split)

-- NOT PRINTED: function 15 (shell_script_line)

-- NOT PRINTED: function 41 (bits_Mul32)

-- NOT PRINTED: function 42 (bits_Mul64)

-- NOT PRINTED: function 23 (bits_Mul)

-- NOT PRINTED: function 24 (strings_HasPrefix)

-- NOT PRINTED: function 27 (strings_Builder_Len)

-- NOT PRINTED: function 16 (strings_Repeat)

-- NOT PRINTED: function 10 (shell_Run)

/-! ### plaitinglaw18_known: function 5 (by hand) -/
/-- What a library variable's cell wants: a number of whatever value. -/
def numAt (w : World) : Prop := ∃ m : Int, w.cell? ⟨0, 0, none⟩ = some (.int .i64 m)
theorem numAt.below {w W : World} (h : numAt w) (hb : Below w.heap.size w W) : numAt W := h.elim fun m hm => ⟨m, (hb.cell (World.block_lt_of_cell? _ _ hm)).trans hm⟩
def plaitinglaw18_known.f : Option Bool := some true
set_option maxRecDepth 100000 in
theorem plaitinglaw18_known.calls (r : Bool) (w : World) (hx : numAt w) (h : plaitinglaw18_known.f = some r) :
    Calls Tryz.prog 5 #[] w fun e w' => e = .returned (.bool r) ∧ Below w.heap.size w w' := by
  obtain rfl := Option.some.inj h
  obtain ⟨m, hm⟩ := hx
  have KR := run_says m w hm
  clear hm
  go_enter Tryz.func5, Tryz.ntmps5
  go_wp2_with (go_at_call 10; refine KR.mono ?_; rintro e w' ⟨rfl, hb⟩)
  go_ret
  exact ⟨by rfl, hb⟩

/-! ### plaitingref18_hex: function 18 -/
def plaitingref18_hex.j0 : Nat → Int → Bool → Option (Int)
  | 0, _, _ => none
  | k + 1, x0, x8 => if x8 = true then (some ((x0 - 48) % 256)) else (if x0 ≥ 97 then (if x0 ≤ 102 then (some (((x0 - 97) % 256) + 10)) else (some (-1))) else (some (-1)))
def plaitingref18_hex.f (k : Nat) (a0 : Int) : Option (Int) := if a0 ≥ 48 then (plaitingref18_hex.j0 k a0 (decide (a0 ≤ 57))) else (plaitingref18_hex.j0 k a0 false)
theorem plaitingref18_hex.mono_l : ∀ k, (∀ y0 y1, LeO (plaitingref18_hex.j0 k y0 y1) (plaitingref18_hex.j0 (k + 1) y0 y1))
  | 0 => fun _ _ r h => by simp [plaitingref18_hex.j0] at h
  | k + 1 => by
    have ih0 := plaitingref18_hex.mono_l k
    · intro y0 y1
      unfold plaitingref18_hex.j0
      repeat' first
      | (with_reducible exact ih0 _ _)
      | (with_reducible exact LeO.refl _)
      | (with_reducible exact LeO.none _)
      | (with_reducible refine LeO.ite ?_ ?_)
      | (with_reducible refine LeO.bind ?_ (fun _ => ?_))
      | exact ih0 _ _
      | exact LeO.none _
      | refine LeO.ite ?_ ?_
      | refine LeO.bind ?_ (fun _ => ?_)
theorem plaitingref18_hex.mono : ∀ a0 k, LeO (plaitingref18_hex.f k a0) (plaitingref18_hex.f (k + 1) a0) := by
  intro a0 k
  have ih0 := plaitingref18_hex.mono_l k
  unfold plaitingref18_hex.f
  repeat' first
      | (with_reducible exact ih0 _ _)
      | (with_reducible exact LeO.refl _)
      | (with_reducible exact LeO.none _)
      | (with_reducible refine LeO.ite ?_ ?_)
      | (with_reducible refine LeO.bind ?_ (fun _ => ?_))
      | exact ih0 _ _
      | exact LeO.none _
      | refine LeO.ite ?_ ?_
      | refine LeO.bind ?_ (fun _ => ?_)
set_option maxHeartbeats 8000000 in
set_option maxRecDepth 100000 in
theorem plaitingref18_hex.calls (k : Nat) (a0 : Int) (r : Int) (w : World) (h : plaitingref18_hex.f k a0 = some r) :
    Calls Tryz.prog 18 #[.int .u8 a0] w fun e w' => e = .returned (.int .i64 r) ∧ Drawn0 w w' := by
  have H : (if a0 ≥ 48 then (plaitingref18_hex.j0 k a0 (decide (a0 ≤ 57))) else (plaitingref18_hex.j0 k a0 false)) = some r := h
  clear h
  have HC2 := Aside0.mk H
  clear H
  go_enter Tryz.func18, Tryz.ntmps18
  go_upto_region 1 with (fail)
  go_cut [8] (fun v8 wc => ∃ (kq : Nat) (x8_1 : Bool), v8 = .bool x8_1 ∧ Aside0 (plaitingref18_hex.j0 kq a0 x8_1 = some r) ∧ Aside0 (kq ≤ k) ∧ Drawn0 w wc)
  case first =>
    have H := HC2.out
    clear HC2
    by_cases c3 : a0 ≥ 48
    · rw [if_pos c3] at H
      have c3b0 : decide (48 ≤ a0) = true := decide_eq_true c3
      clear c3
      (first | rw [c3b0] | (simp only [i64_w, i32_w]; rw [c3b0]) | skip)
      have H' := Aside0.mk H
      clear H
      go_wp2
      go_meet
      case rel => exact ⟨_, (decide (a0 ≤ 57)), (by first | rfl | (simp; done) | (simp [*]; done)), H', ⟨by first | omega | exact Nat.le_refl _⟩, by repeat (first | exact Drawn0.refl _ | apply Drawn0.step)⟩
    · rw [if_neg c3] at H
      have c3b0 : decide (48 ≤ a0) = false := decide_eq_false c3
      clear c3
      (first | rw [c3b0] | (simp only [i64_w, i32_w]; rw [c3b0]) | skip)
      have H' := Aside0.mk H
      clear H
      go_wp2
      go_meet
      case rel => exact ⟨_, (false), (by first | rfl | (simp; done) | (simp [*]; done)), H', ⟨by first | omega | exact Nat.le_refl _⟩, by repeat (first | exact Drawn0.refl _ | apply Drawn0.step)⟩
  case rest =>
    clear HC2
    try clear c1
    try clear p2
    try clear c3
    try clear c3b0
    obtain ⟨kq, x8_1, rfl, HA, HJ1, ⟨mc1, rfl⟩⟩ := hcut
    cases kq with
    | zero => exact absurd HA.out (by simp [plaitingref18_hex.j0])
    | succ kj1 =>
      have H := HA.out
      clear HA
      simp only [plaitingref18_hex.j0] at H
      by_cases c4 : x8_1 = true
      · subst c4
        have H1 : (some ((a0 - 48) % 256)) = some r := by rw [if_pos rfl] at H; exact H
        clear H
        have H := H1
        clear H1
        obtain rfl := Option.some.inj H
        go_wp2
        go_ret
        exact ⟨by first | rfl | (simp; done) | (simp [*]; done), by repeat (first | exact Drawn0.refl _ | apply Drawn0.step)⟩
      · replace c4 := Bool.eq_false_iff.mpr c4
        subst c4
        have H1 : (if a0 ≥ 97 then (if a0 ≤ 102 then (some (((a0 - 97) % 256) + 10)) else (some (-1))) else (some (-1))) = some r := by rw [if_neg (show ¬ (false = true) by decide)] at H; exact H
        clear H
        have H := H1
        clear H1
        by_cases c5 : a0 ≥ 97
        · rw [if_pos c5] at H
          have c5b0 : decide (97 ≤ a0) = true := decide_eq_true c5
          clear c5
          by_cases c6 : a0 ≤ 102
          · rw [if_pos c6] at H
            have c6b0 : decide (a0 ≤ 102) = true := decide_eq_true c6
            clear c6
            obtain rfl := Option.some.inj H
            go_wp2
            go_ret
            exact ⟨by first | rfl | (simp; done) | (simp [*]; done), by repeat (first | exact Drawn0.refl _ | apply Drawn0.step)⟩
          · rw [if_neg c6] at H
            have c6b0 : decide (a0 ≤ 102) = false := decide_eq_false c6
            clear c6
            obtain rfl := Option.some.inj H
            go_wp2
            go_ret
            exact ⟨by first | rfl | (simp; done) | (simp [*]; done), by repeat (first | exact Drawn0.refl _ | apply Drawn0.step)⟩
        · rw [if_neg c5] at H
          have c5b0 : decide (97 ≤ a0) = false := decide_eq_false c5
          clear c5
          obtain rfl := Option.some.inj H
          go_wp2
          go_ret
          exact ⟨by first | rfl | (simp; done) | (simp [*]; done), by repeat (first | exact Drawn0.refl _ | apply Drawn0.step)⟩

end Go.Proofs.YtoamchhmehpgoaaGreatDoor.PSJ
