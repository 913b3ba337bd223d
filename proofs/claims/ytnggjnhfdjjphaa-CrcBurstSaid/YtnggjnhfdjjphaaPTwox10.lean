-- Written by the session's own program (wip/gen).
import Derived.Test.YtnggjnhfdjjphaaPTwox0
import Derived.Test.YtnggjnhfdjjphaaPTwox5
namespace Go.Proofs.Ytnggjnhfdjjphaa.PTwo
open Go.RowKit Go.Proofs.YtnggjnhfdjjphaaW.PrintWords Go.Proofs.YtnggjnhfdjjphaaW.PrintLast Go.Proofs.YtnggjnhfdjjphaaW.PrintMore
attribute [local go_sem] max2_int min2_int max_two min_two max_three min_three max_four min_four   -- for this text's walks alone
set_option linter.unusedVariables false
set_option linter.unusedSimpArgs false

/-! ### plaitingref2_Sum: function 52 -/
def plaitingref2_Sum.l0 : Nat → ByteArray → Int → Int → Option (Int)
  | 0, _, _, _ => none
  | k + 1, x0, x3, x4 => if x4 < (x0.size : Int) then (if 0 ≤ x4 then (if (((x3 / 32768) == 1) != ((bt x0 x4) == 49)) = true then (plaitingref2_Sum.l0 k x0 (Go.bits .xor .i64 (Go.bits .and .i64 (wrap64 (x3 * 2)) 65535) 4129) (wrap64 (x4 + 1))) else (plaitingref2_Sum.l0 k x0 (Go.bits .and .i64 (wrap64 (x3 * 2)) 65535) (wrap64 (x4 + 1)))) else (none)) else (some x3)
def plaitingref2_Sum.f (k : Nat) (a0 : ByteArray) : Option (Int) := plaitingref2_Sum.l0 k a0 65535 0
theorem plaitingref2_Sum.mono_l : ∀ k, (∀ y0 y1 y2, LeO (plaitingref2_Sum.l0 k y0 y1 y2) (plaitingref2_Sum.l0 (k + 1) y0 y1 y2))
  | 0 => fun _ _ _ r h => by simp [plaitingref2_Sum.l0] at h
  | k + 1 => by
    have ih0 := plaitingref2_Sum.mono_l k
    · intro y0 y1 y2
      unfold plaitingref2_Sum.l0
      repeat' first
      | (with_reducible exact ih0 _ _ _)
      | (with_reducible exact LeO.refl _)
      | (with_reducible exact LeO.none _)
      | (with_reducible refine LeO.ite ?_ ?_)
      | (with_reducible refine LeO.bind ?_ (fun _ => ?_))
      | exact ih0 _ _ _
      | exact LeO.none _
      | refine LeO.ite ?_ ?_
      | refine LeO.bind ?_ (fun _ => ?_)
theorem plaitingref2_Sum.mono : ∀ a0 k, LeO (plaitingref2_Sum.f k a0) (plaitingref2_Sum.f (k + 1) a0) := by
  intro a0 k
  have ih0 := plaitingref2_Sum.mono_l k
  unfold plaitingref2_Sum.f
  repeat' first
      | (with_reducible exact ih0 _ _ _)
      | (with_reducible exact LeO.refl _)
      | (with_reducible exact LeO.none _)
      | (with_reducible refine LeO.ite ?_ ?_)
      | (with_reducible refine LeO.bind ?_ (fun _ => ?_))
      | exact ih0 _ _ _
      | exact LeO.none _
      | refine LeO.ite ?_ ?_
      | refine LeO.bind ?_ (fun _ => ?_)
set_option maxHeartbeats 8000000 in
set_option maxRecDepth 100000 in
theorem plaitingref2_Sum.calls (k : Nat) (a0 : ByteArray) (r : Int) (w : World) (h : plaitingref2_Sum.f k a0 = some r) :
    Calls Try.prog 52 #[.string a0] w fun e w' => e = .returned (.int .i64 r) ∧ Drawn0 w w' := by
  have H : (plaitingref2_Sum.l0 k a0 65535 0) = some r := h
  clear h
  have H' := Aside0.mk H
  clear H
  go_enter Try.func52, Try.ntmps52
  go_wp2
  go_loopg [3, 4] k (fun kq v3 v4 w' => ∃ (x3_1 : Int) (x4_1 : Int), v3 = .int .i64 x3_1 ∧ v4 = .int .i64 x4_1 ∧ Aside0 (plaitingref2_Sum.l0 kq a0 x3_1 x4_1 = some r) ∧ Aside0 (kq ≤ k) ∧ Drawn0 w w')
  case atStart => exact ⟨(65535), (0), (by first | rfl | (simp; done) | (simp [*]; done)), (by first | rfl | (simp; done) | (simp [*]; done)), H', ⟨Nat.le_refl _⟩, by repeat (first | exact Drawn0.refl _ | apply Drawn0.step)⟩
  case round =>
    clear H'
    obtain ⟨x3_1, x4_1, rfl, rfl, HA, HK1, ⟨m1, rfl⟩⟩ := hrel
    cases gk with
    | zero => exact absurd HA.out (by simp [plaitingref2_Sum.l0])
    | succ k1 =>
      have H := HA.out
      clear HA
      simp only [plaitingref2_Sum.l0] at H
      by_cases c2 : x4_1 < (a0.size : Int)
      · rw [if_pos c2] at H
        have c2b0 : decide (x4_1 < (a0.size : Int)) = true := decide_eq_true c2
        clear c2
        by_cases c3 : 0 ≤ x4_1
        · rw [if_pos c3] at H
          have c3b0 : decide (0 ≤ x4_1) = true := decide_eq_true c3
          clear c3
          by_cases c5 : (((x3_1 / 32768) == 1) != ((bt a0 x4_1) == 49)) = true
          · rw [if_pos c5] at H
            have c5b0 : (((x3_1 / 32768) == 1) != ((bt a0 x4_1) == 49)) = true := c5
            (try (have c5b1 : decide (((x3_1 / 32768) == 1) = ((bt a0 x4_1) == 49)) = false := by simpa using c5))
            (try (have c5b2 : (((x3_1 / 32768) == 1) == ((bt a0 x4_1) == 49)) = false := by simpa using c5))
            (try (have c5b3 : ¬ (((x3_1 / 32768) == 1) = ((bt a0 x4_1) == 49)) := by simpa using c5))
            clear c5
            have H' := Aside0.mk H
            clear H
            have p4 : 0 ≤ (x4_1 : Int) := of_decide_eq_true (by first | (with_reducible assumption) | assumption)
            have q4 : x4_1 < (a0.size : Int) := of_decide_eq_true (by first | (with_reducible assumption) | assumption)
            have hx4 := bt_at a0 x4_1
            replace p4 := eq_true p4
            replace q4 := eq_true q4
            go_wp2
            go_roundg k1
            case measure => have := HK1.out; omega
            case rel => exact ⟨(Go.bits .xor .i64 (Go.bits .and .i64 (wrap64 (x3_1 * 2)) 65535) 4129), (wrap64 (x4_1 + 1)), (by first | rfl | (simp; done) | (simp [*]; done)), (by first | rfl | (simp; done) | (simp [*]; done)), H', ⟨by have := HK1.out; omega⟩, by repeat (first | exact Drawn0.refl _ | apply Drawn0.step)⟩
          · rw [if_neg c5] at H
            have c5b0 : (((x3_1 / 32768) == 1) != ((bt a0 x4_1) == 49)) = false := by simpa using c5
            (try (have c5b1 : decide (((x3_1 / 32768) == 1) = ((bt a0 x4_1) == 49)) = true := by simpa using c5))
            (try (have c5b2 : (((x3_1 / 32768) == 1) == ((bt a0 x4_1) == 49)) = true := by simpa using c5))
            clear c5
            have H' := Aside0.mk H
            clear H
            have p4 : 0 ≤ (x4_1 : Int) := of_decide_eq_true (by first | (with_reducible assumption) | assumption)
            have q4 : x4_1 < (a0.size : Int) := of_decide_eq_true (by first | (with_reducible assumption) | assumption)
            have hx4 := bt_at a0 x4_1
            replace p4 := eq_true p4
            replace q4 := eq_true q4
            go_wp2
            go_roundg k1
            case measure => have := HK1.out; omega
            case rel => exact ⟨(Go.bits .and .i64 (wrap64 (x3_1 * 2)) 65535), (wrap64 (x4_1 + 1)), (by first | rfl | (simp; done) | (simp [*]; done)), (by first | rfl | (simp; done) | (simp [*]; done)), H', ⟨by have := HK1.out; omega⟩, by repeat (first | exact Drawn0.refl _ | apply Drawn0.step)⟩
        · rw [if_neg c3] at H
          exact absurd H (by simp)
      · rw [if_neg c2] at H
        have c2b0 : decide (x4_1 < (a0.size : Int)) = false := decide_eq_false c2
        clear c2
        obtain rfl := Option.some.inj H
        go_wp2
        go_ret
        exact ⟨by first | rfl | (simp; done) | (simp [*]; done), by repeat (first | exact Drawn0.refl _ | apply Drawn0.step)⟩

/-! ### plaitingref2_Wrap: function 53 -/
def plaitingref2_Wrap.f (k : Nat) (a0 : ByteArray) : Option (ByteArray) := (plaitingref2_Sum.f k a0).bind fun t140 => ((plaitingref1_Bits.f k t140 16).bind fun t141 => (if a0.size + t141.size ≤ 9223372036854775807 then (if (a0 ++ t141).size + 1 ≤ 9223372036854775807 then (some ((a0 ++ t141) ++ (⟨#[35]⟩ : ByteArray))) else (none)) else (none)))
theorem plaitingref2_Wrap.mono : ∀ a0 k, LeO (plaitingref2_Wrap.f k a0) (plaitingref2_Wrap.f (k + 1) a0) := by
  intro a0 k
  unfold plaitingref2_Wrap.f
  repeat' first
      | (with_reducible exact plaitingref1_Bits.mono _ _ _)
      | (with_reducible exact plaitingref2_Sum.mono _ _)
      | (with_reducible exact LeO.refl _)
      | (with_reducible exact LeO.none _)
      | (with_reducible refine LeO.ite ?_ ?_)
      | (with_reducible refine LeO.bind ?_ (fun _ => ?_))
      | exact plaitingref1_Bits.mono _ _ _
      | exact plaitingref2_Sum.mono _ _
      | exact LeO.none _
      | refine LeO.ite ?_ ?_
      | refine LeO.bind ?_ (fun _ => ?_)
set_option maxHeartbeats 8000000 in
set_option maxRecDepth 100000 in
theorem plaitingref2_Wrap.calls (k : Nat) (a0 : ByteArray) (r : ByteArray) (w : World) (h : plaitingref2_Wrap.f k a0 = some r) :
    Calls Try.prog 53 #[.string a0] w fun e w' => e = .returned (.string r) ∧ Drawn0 w w' := by
  have H : ((plaitingref2_Sum.f k a0).bind fun t140 => ((plaitingref1_Bits.f k t140 16).bind fun t141 => (if a0.size + t141.size ≤ 9223372036854775807 then (if (a0 ++ t141).size + 1 ≤ 9223372036854775807 then (some ((a0 ++ t141) ++ (⟨#[35]⟩ : ByteArray))) else (none)) else (none)))) = some r := h
  clear h
  replace H := Option.bind_eq_some_iff.mp H
  obtain ⟨t140, A20, H⟩ := H
  replace H : ((plaitingref1_Bits.f k t140 16).bind fun t141 => (if a0.size + t141.size ≤ 9223372036854775807 then (if (a0 ++ t141).size + 1 ≤ 9223372036854775807 then (some ((a0 ++ t141) ++ (⟨#[35]⟩ : ByteArray))) else (none)) else (none))) = some r := H
  have A2 := Aside0.mk A20
  clear A20
  replace H := Option.bind_eq_some_iff.mp H
  obtain ⟨t141, A30, H⟩ := H
  replace H : (if a0.size + t141.size ≤ 9223372036854775807 then (if (a0 ++ t141).size + 1 ≤ 9223372036854775807 then (some ((a0 ++ t141) ++ (⟨#[35]⟩ : ByteArray))) else (none)) else (none)) = some r := H
  have A3 := Aside0.mk A30
  clear A30
  by_cases c4 : a0.size + t141.size ≤ 9223372036854775807
  · rw [if_pos c4] at H
    have c4b0 := eq_true c4
    have c4b1 : decide (a0.size + t141.size ≤ 9223372036854775807) = true := decide_eq_true c4
    try have c4b2 : (9223372036854775807 < a0.size + t141.size) = False := eq_false (Nat.not_lt.2 c4)
    by_cases c5 : (a0 ++ t141).size + 1 ≤ 9223372036854775807
    · rw [if_pos c5] at H
      have c5b0 := eq_true c5
      have c5b1 : decide ((a0 ++ t141).size + 1 ≤ 9223372036854775807) = true := decide_eq_true c5
      try have c5b2 : (9223372036854775807 < (a0 ++ t141).size + 1) = False := eq_false (Nat.not_lt.2 c5)
      (try (have c5b3 := c5; simp only [ByteArray.size_append] at c5b3))
      (try (have c5b4 := c5; simp only [ByteArray.size_append, ByteArray.size_extract] at c5b4))
      (try (have c5b5 : a0.size + t141.size + 1 ≤ 9223372036854775807 := by (have h_ := c5; simp only [ByteArray.size_append, ByteArray.size_extract] at h_; simp only [decide_eq_true_eq] at *; omega)))
      (try (have c5b6 : (9223372036854775807 < a0.size + t141.size + 1) = False := eq_false (Nat.not_lt.2 c5b5)))
      obtain rfl := Option.some.inj H
      go_enter Try.func53, Try.ntmps53
      go_wp2_with (first | ((with_reducible refine gate_callee (f := 52) rfl ?_); refine goesL_ (some 5) rfl rfl Try.func52 (by kernel_rfl) rfl #[.string a0] rfl (by (try simp only [List.map_toArray, List.map_cons, List.map_nil]); first | done | rfl | (simp only [List.length_drop, List.length_take]; rfl)) ?_; (with_reducible refine (plaitingref2_Sum.calls k a0 t140 _ A2.out).mono ?_); rintro e w' ⟨rfl, ⟨nd, rfl⟩⟩; refine ⟨_, rfl, ?_⟩) | ((with_reducible refine gate_callee (f := 36) rfl ?_); refine goesL_ (some 6) rfl rfl Try.func36 (by kernel_rfl) rfl #[.int .i64 t140, .int .i64 16] rfl (by (try simp only [List.map_toArray, List.map_cons, List.map_nil]); first | done | rfl | (simp only [List.length_drop, List.length_take]; rfl)) ?_; (with_reducible refine (plaitingref1_Bits.calls k t140 16 t141 _ A3.out).mono ?_); rintro e w' ⟨rfl, ⟨nd, rfl⟩⟩; refine ⟨_, rfl, ?_⟩))
      go_ret
      exact ⟨by first | rfl | (simp; done) | (simp [*]; done), by repeat (first | exact Drawn0.refl _ | apply Drawn0.step)⟩
    · rw [if_neg c5] at H
      exact absurd H (by simp)
  · rw [if_neg c4] at H
    exact absurd H (by simp)

end Go.Proofs.Ytnggjnhfdjjphaa.PTwo
