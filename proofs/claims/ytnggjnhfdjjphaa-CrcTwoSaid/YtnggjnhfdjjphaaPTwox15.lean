-- Written by the session's own program (wip/gen).
import Derived.Test.YtnggjnhfdjjphaaPTwox0
import Derived.Test.YtnggjnhfdjjphaaPTwox5
import Derived.Test.YtnggjnhfdjjphaaPTwox10
import Derived.Test.YtnggjnhfdjjphaaPTwox14
namespace Go.Proofs.Ytnggjnhfdjjphaa.PTwo
open Go.RowKit Go.Proofs.YtnggjnhfdjjphaaW.PrintWords Go.Proofs.YtnggjnhfdjjphaaW.PrintLast Go.Proofs.YtnggjnhfdjjphaaW.PrintMore
attribute [local go_sem] max2_int min2_int max_two min_two max_three min_three max_four min_four   -- for this text's walks alone
set_option linter.unusedVariables false
set_option linter.unusedSimpArgs false

/-! ### plaitingref1_Whole: function 56 -/
def plaitingref1_Whole.f (k : Nat) (a0 : ByteArray) : Option (Bool) := if a0.toList = ([] : List UInt8) then (some false) else ((plaitingref1_Clean.f k a0).bind fun t157 => (if t157.toList = a0.toList then (if 0 ≤ (wrap64 ((a0.size : Int) - 1)) then (if (wrap64 ((a0.size : Int) - 1)) < (a0.size : Int) then (some ((bt a0 (wrap64 ((a0.size : Int) - 1))) == 35)) else (none)) else (none)) else (some false)))
theorem plaitingref1_Whole.mono : ∀ a0 k, LeO (plaitingref1_Whole.f k a0) (plaitingref1_Whole.f (k + 1) a0) := by
  intro a0 k
  unfold plaitingref1_Whole.f
  repeat' first
      | (with_reducible exact plaitingref1_Clean.mono _ _)
      | (with_reducible exact LeO.refl _)
      | (with_reducible exact LeO.none _)
      | (with_reducible refine LeO.ite ?_ ?_)
      | (with_reducible refine LeO.bind ?_ (fun _ => ?_))
      | exact plaitingref1_Clean.mono _ _
      | exact LeO.none _
      | refine LeO.ite ?_ ?_
      | refine LeO.bind ?_ (fun _ => ?_)
set_option maxHeartbeats 8000000 in
set_option maxRecDepth 100000 in
theorem plaitingref1_Whole.calls (k : Nat) (a0 : ByteArray) (r : Bool) (w : World) (h : plaitingref1_Whole.f k a0 = some r) :
    Calls Try.prog 56 #[.string a0] w fun e w' => e = .returned (.bool r) ∧ Drawn0 w w' := by
  have H : (if a0.toList = ([] : List UInt8) then (some false) else ((plaitingref1_Clean.f k a0).bind fun t157 => (if t157.toList = a0.toList then (if 0 ≤ (wrap64 ((a0.size : Int) - 1)) then (if (wrap64 ((a0.size : Int) - 1)) < (a0.size : Int) then (some ((bt a0 (wrap64 ((a0.size : Int) - 1))) == 35)) else (none)) else (none)) else (some false)))) = some r := h
  clear h
  by_cases c2 : a0.toList = ([] : List UInt8)
  · rw [if_pos c2] at H
    have c2b0 : (a0.toList == ([] : List UInt8)) = true := beq_iff_eq.mpr c2
    have c2b1 : (a0.toList != ([] : List UInt8)) = false := bne_eq_false_iff_eq.mpr c2
    clear c2
    obtain rfl := Option.some.inj H
    go_enter Try.func56, Try.ntmps56
    go_wp2
    go_ret
    exact ⟨by first | rfl | (simp; done) | (simp [*]; done), by repeat (first | exact Drawn0.refl _ | apply Drawn0.step)⟩
  · rw [if_neg c2] at H
    have c2b0 : (a0.toList == ([] : List UInt8)) = false := beq_eq_false_iff_ne.mpr c2
    have c2b1 : (a0.toList != ([] : List UInt8)) = true := bne_iff_ne.mpr c2
    replace H := Option.bind_eq_some_iff.mp H
    obtain ⟨t157, A30, H⟩ := H
    replace H : (if t157.toList = a0.toList then (if 0 ≤ (wrap64 ((a0.size : Int) - 1)) then (if (wrap64 ((a0.size : Int) - 1)) < (a0.size : Int) then (some ((bt a0 (wrap64 ((a0.size : Int) - 1))) == 35)) else (none)) else (none)) else (some false)) = some r := H
    have A3 := Aside0.mk A30
    clear A30
    by_cases c4 : t157.toList = a0.toList
    · rw [if_pos c4] at H
      have c4b0 : (t157.toList == a0.toList) = true := beq_iff_eq.mpr c4
      have c4b1 : (t157.toList != a0.toList) = false := bne_eq_false_iff_eq.mpr c4
      clear c4
      obtain ⟨ji5, hji5⟩ : ∃ j_ : Int, (wrap64 ((a0.size : Int) - 1)) = j_ := ⟨_, rfl⟩
      replace H : (if 0 ≤ (ji5) then (if (ji5) < (a0.size : Int) then (some ((bt a0 (ji5)) == 35)) else (none)) else (none)) = some r := by first | (rw [hji5] at H; exact H) | (simp only [hji5] at H ⊢; exact H)
      (try rw [hji5] at A3)
      have hji5w : (IntKind.i64.wrap ((a0.size : Int) - 1)) = ji5 := (i64_w _).trans hji5
      by_cases c6 : 0 ≤ (ji5)
      · rw [if_pos c6] at H
        have c6b0 : decide (0 ≤ (ji5)) = true := decide_eq_true c6
        clear c6
        by_cases c7 : (ji5) < (a0.size : Int)
        · rw [if_pos c7] at H
          have c7b0 : decide ((ji5) < (a0.size : Int)) = true := decide_eq_true c7
          clear c7
          obtain rfl := Option.some.inj H
          go_enter Try.func56, Try.ntmps56
          go_wp2_with (first | (go_at_call 40; (with_reducible refine (plaitingref1_Clean.calls k a0 t157 _ A3.out).mono ?_); rintro e w' ⟨rfl, ⟨nd, rfl⟩⟩; have p8 : 0 ≤ ((ji5) : Int) := of_decide_eq_true (by first | (with_reducible assumption) | assumption); have q8 : (ji5) < (a0.size : Int) := of_decide_eq_true (by first | (with_reducible assumption) | assumption); have hx8 := bt_at a0 (ji5); replace p8 := eq_true p8; replace q8 := eq_true q8))
          go_ret
          exact ⟨by first | rfl | (simp; done) | (simp only [← hji5] <;> (first | rfl | simp)) | (simp [*]; done), by repeat (first | exact Drawn0.refl _ | apply Drawn0.step)⟩
        · rw [if_neg c7] at H
          exact absurd H (by simp)
      · rw [if_neg c6] at H
        exact absurd H (by simp)
    · rw [if_neg c4] at H
      have c4b0 : (t157.toList == a0.toList) = false := beq_eq_false_iff_ne.mpr c4
      have c4b1 : (t157.toList != a0.toList) = true := bne_iff_ne.mpr c4
      obtain rfl := Option.some.inj H
      go_enter Try.func56, Try.ntmps56
      go_wp2_with (first | (go_at_call 40; (with_reducible refine (plaitingref1_Clean.calls k a0 t157 _ A3.out).mono ?_); rintro e w' ⟨rfl, ⟨nd, rfl⟩⟩))
      go_ret
      exact ⟨by first | rfl | (simp; done) | (simp [*]; done), by repeat (first | exact Drawn0.refl _ | apply Drawn0.step)⟩

/-! ### plaitingref2_Open: function 55 -/
def plaitingref2_Open.f (k : Nat) (a0 : ByteArray) : Option (ByteArray × Int) := (plaitingref1_Whole.f k a0).bind fun t158 => (if t158 = true then (if (wrap64 ((wrap64 ((a0.size : Int) - 1)) - 16)) < 0 then (some ((⟨#[]⟩ : ByteArray), 3)) else (if 0 ≤ (wrap64 ((wrap64 ((a0.size : Int) - 1)) - 16)) then (if (wrap64 ((wrap64 ((a0.size : Int) - 1)) - 16)) ≤ (wrap64 ((a0.size : Int) - 1)) then (if (wrap64 ((a0.size : Int) - 1)) ≤ (a0.size : Int) then (if (wrap64 ((wrap64 ((a0.size : Int) - 1)) - 16)) ≤ (a0.size : Int) then ((plaitingref2_Sum.f k (a0.extract 0 ((wrap64 ((wrap64 ((a0.size : Int) - 1)) - 16)) : Int).toNat)).bind fun t159 => ((plaitingref1_Bits.f k t159 16).bind fun t160 => (if (a0.extract ((wrap64 ((wrap64 ((a0.size : Int) - 1)) - 16)) : Int).toNat ((wrap64 ((a0.size : Int) - 1)) : Int).toNat).toList = t160.toList then (some (a0.extract 0 ((wrap64 ((wrap64 ((a0.size : Int) - 1)) - 16)) : Int).toNat, 0)) else (some ((⟨#[]⟩ : ByteArray), 5))))) else (none)) else (none)) else (none)) else (none))) else (some ((⟨#[]⟩ : ByteArray), 4)))
theorem plaitingref2_Open.mono : ∀ a0 k, LeO (plaitingref2_Open.f k a0) (plaitingref2_Open.f (k + 1) a0) := by
  intro a0 k
  unfold plaitingref2_Open.f
  repeat' first
      | (with_reducible exact plaitingref1_Bits.mono _ _ _)
      | (with_reducible exact plaitingref1_Whole.mono _ _)
      | (with_reducible exact plaitingref2_Sum.mono _ _)
      | (with_reducible exact LeO.refl _)
      | (with_reducible exact LeO.none _)
      | (with_reducible refine LeO.ite ?_ ?_)
      | (with_reducible refine LeO.bind ?_ (fun _ => ?_))
      | exact plaitingref1_Bits.mono _ _ _
      | exact plaitingref1_Whole.mono _ _
      | exact plaitingref2_Sum.mono _ _
      | exact LeO.none _
      | refine LeO.ite ?_ ?_
      | refine LeO.bind ?_ (fun _ => ?_)
set_option maxHeartbeats 8000000 in
set_option maxRecDepth 100000 in
theorem plaitingref2_Open.calls (k : Nat) (a0 : ByteArray) (r1 : ByteArray) (r2 : Int) (w : World) (h : plaitingref2_Open.f k a0 = some (r1, r2)) :
    Calls Try.prog 55 #[.string a0] w fun e w' => e = .returned (.tuple #[.string r1, .int .i64 r2]) ∧ Drawn0 w w' := by
  have H : ((plaitingref1_Whole.f k a0).bind fun t158 => (if t158 = true then (if (wrap64 ((wrap64 ((a0.size : Int) - 1)) - 16)) < 0 then (some ((⟨#[]⟩ : ByteArray), 3)) else (if 0 ≤ (wrap64 ((wrap64 ((a0.size : Int) - 1)) - 16)) then (if (wrap64 ((wrap64 ((a0.size : Int) - 1)) - 16)) ≤ (wrap64 ((a0.size : Int) - 1)) then (if (wrap64 ((a0.size : Int) - 1)) ≤ (a0.size : Int) then (if (wrap64 ((wrap64 ((a0.size : Int) - 1)) - 16)) ≤ (a0.size : Int) then ((plaitingref2_Sum.f k (a0.extract 0 ((wrap64 ((wrap64 ((a0.size : Int) - 1)) - 16)) : Int).toNat)).bind fun t159 => ((plaitingref1_Bits.f k t159 16).bind fun t160 => (if (a0.extract ((wrap64 ((wrap64 ((a0.size : Int) - 1)) - 16)) : Int).toNat ((wrap64 ((a0.size : Int) - 1)) : Int).toNat).toList = t160.toList then (some (a0.extract 0 ((wrap64 ((wrap64 ((a0.size : Int) - 1)) - 16)) : Int).toNat, 0)) else (some ((⟨#[]⟩ : ByteArray), 5))))) else (none)) else (none)) else (none)) else (none))) else (some ((⟨#[]⟩ : ByteArray), 4)))) = some (r1, r2) := h
  clear h
  replace H := Option.bind_eq_some_iff.mp H
  obtain ⟨t158, A20, H⟩ := H
  replace H : (if t158 = true then (if (wrap64 ((wrap64 ((a0.size : Int) - 1)) - 16)) < 0 then (some ((⟨#[]⟩ : ByteArray), 3)) else (if 0 ≤ (wrap64 ((wrap64 ((a0.size : Int) - 1)) - 16)) then (if (wrap64 ((wrap64 ((a0.size : Int) - 1)) - 16)) ≤ (wrap64 ((a0.size : Int) - 1)) then (if (wrap64 ((a0.size : Int) - 1)) ≤ (a0.size : Int) then (if (wrap64 ((wrap64 ((a0.size : Int) - 1)) - 16)) ≤ (a0.size : Int) then ((plaitingref2_Sum.f k (a0.extract 0 ((wrap64 ((wrap64 ((a0.size : Int) - 1)) - 16)) : Int).toNat)).bind fun t159 => ((plaitingref1_Bits.f k t159 16).bind fun t160 => (if (a0.extract ((wrap64 ((wrap64 ((a0.size : Int) - 1)) - 16)) : Int).toNat ((wrap64 ((a0.size : Int) - 1)) : Int).toNat).toList = t160.toList then (some (a0.extract 0 ((wrap64 ((wrap64 ((a0.size : Int) - 1)) - 16)) : Int).toNat, 0)) else (some ((⟨#[]⟩ : ByteArray), 5))))) else (none)) else (none)) else (none)) else (none))) else (some ((⟨#[]⟩ : ByteArray), 4))) = some (r1, r2) := H
  have A2 := Aside0.mk A20
  clear A20
  by_cases c3 : t158 = true
  · subst c3
    have H1 : (if (wrap64 ((wrap64 ((a0.size : Int) - 1)) - 16)) < 0 then (some ((⟨#[]⟩ : ByteArray), 3)) else (if 0 ≤ (wrap64 ((wrap64 ((a0.size : Int) - 1)) - 16)) then (if (wrap64 ((wrap64 ((a0.size : Int) - 1)) - 16)) ≤ (wrap64 ((a0.size : Int) - 1)) then (if (wrap64 ((a0.size : Int) - 1)) ≤ (a0.size : Int) then (if (wrap64 ((wrap64 ((a0.size : Int) - 1)) - 16)) ≤ (a0.size : Int) then ((plaitingref2_Sum.f k (a0.extract 0 ((wrap64 ((wrap64 ((a0.size : Int) - 1)) - 16)) : Int).toNat)).bind fun t159 => ((plaitingref1_Bits.f k t159 16).bind fun t160 => (if (a0.extract ((wrap64 ((wrap64 ((a0.size : Int) - 1)) - 16)) : Int).toNat ((wrap64 ((a0.size : Int) - 1)) : Int).toNat).toList = t160.toList then (some (a0.extract 0 ((wrap64 ((wrap64 ((a0.size : Int) - 1)) - 16)) : Int).toNat, 0)) else (some ((⟨#[]⟩ : ByteArray), 5))))) else (none)) else (none)) else (none)) else (none))) = some (r1, r2) := by rw [if_pos rfl] at H; exact H
    clear H
    have H := H1
    clear H1
    by_cases c4 : (wrap64 ((wrap64 ((a0.size : Int) - 1)) - 16)) < 0
    · rw [if_pos c4] at H
      have c4b0 : decide ((wrap64 ((wrap64 ((a0.size : Int) - 1)) - 16)) < 0) = true := decide_eq_true c4
      clear c4
      simp only [Option.some.injEq, Prod.mk.injEq] at H
      obtain ⟨rfl, rfl⟩ := H
      go_enter Try.func55, Try.ntmps55
      go_wp2_with (first | (go_at_call 56; (with_reducible refine (plaitingref1_Whole.calls k a0 true _ A2.out).mono ?_); rintro e w' ⟨rfl, ⟨nd, rfl⟩⟩; (try first | exact ⟨rfl, _, World.drewN_drewN _ _ _⟩ | exact ⟨rfl, _, Eq.trans (World.drewN_drewN _ _ _) (congrArg (World.drewN _) (Nat.add_assoc _ _ _))⟩)))
      repeat (go_quiet (first | (go_at_call 56; (with_reducible refine (plaitingref1_Whole.calls k a0 true _ A2.out).mono ?_); rintro e w' ⟨rfl, ⟨nd, rfl⟩⟩; (try first | exact ⟨rfl, _, World.drewN_drewN _ _ _⟩ | exact ⟨rfl, _, Eq.trans (World.drewN_drewN _ _ _) (congrArg (World.drewN _) (Nat.add_assoc _ _ _))⟩))); try go_wp2_with (first | (go_at_call 56; (with_reducible refine (plaitingref1_Whole.calls k a0 true _ A2.out).mono ?_); rintro e w' ⟨rfl, ⟨nd, rfl⟩⟩; (try first | exact ⟨rfl, _, World.drewN_drewN _ _ _⟩ | exact ⟨rfl, _, Eq.trans (World.drewN_drewN _ _ _) (congrArg (World.drewN _) (Nat.add_assoc _ _ _))⟩))))
      go_ret2
      exact ⟨by first | rfl | (simp; done) | (simp [*]; done), by repeat (first | exact Drawn0.refl _ | apply Drawn0.step)⟩
    · rw [if_neg c4] at H
      have c4b0 : decide ((wrap64 ((wrap64 ((a0.size : Int) - 1)) - 16)) < 0) = false := decide_eq_false c4
      clear c4
      obtain ⟨ji5, hji5⟩ : ∃ j_ : Int, (wrap64 ((wrap64 ((a0.size : Int) - 1)) - 16)) = j_ := ⟨_, rfl⟩
      replace H : (if 0 ≤ (ji5) then (if (ji5) ≤ (wrap64 ((a0.size : Int) - 1)) then (if (wrap64 ((a0.size : Int) - 1)) ≤ (a0.size : Int) then (if (ji5) ≤ (a0.size : Int) then ((plaitingref2_Sum.f k (a0.extract 0 ((ji5) : Int).toNat)).bind fun t159 => ((plaitingref1_Bits.f k t159 16).bind fun t160 => (if (a0.extract ((ji5) : Int).toNat ((wrap64 ((a0.size : Int) - 1)) : Int).toNat).toList = t160.toList then (some (a0.extract 0 ((ji5) : Int).toNat, 0)) else (some ((⟨#[]⟩ : ByteArray), 5))))) else (none)) else (none)) else (none)) else (none)) = some (r1, r2) := by first | (rw [hji5] at H; exact H) | (simp only [hji5] at H ⊢; exact H)
      (try rw [hji5] at c4b0)
      (try rw [hji5] at A2)
      have hji5w : (IntKind.i64.wrap ((wrap64 ((a0.size : Int) - 1)) - 16)) = ji5 := (i64_w _).trans hji5
      by_cases c6 : 0 ≤ (ji5)
      · rw [if_pos c6] at H
        have c6b0 := eq_true c6
        have c6b1 : decide (0 ≤ (ji5)) = true := decide_eq_true c6
        clear c6
        by_cases c7 : (ji5) ≤ (wrap64 ((a0.size : Int) - 1))
        · rw [if_pos c7] at H
          have c7b0 := eq_true c7
          have c7b1 : decide ((ji5) ≤ (wrap64 ((a0.size : Int) - 1))) = true := decide_eq_true c7
          clear c7
          by_cases c8 : (wrap64 ((a0.size : Int) - 1)) ≤ (a0.size : Int)
          · rw [if_pos c8] at H
            have c8b0 := eq_true c8
            have c8b1 : decide ((wrap64 ((a0.size : Int) - 1)) ≤ (a0.size : Int)) = true := decide_eq_true c8
            clear c8
            have c9b0 := eq_true (of_decide_eq_true (by first | (with_reducible assumption) | assumption) : 0 ≤ (ji5))
            by_cases c10 : (ji5) ≤ (a0.size : Int)
            · rw [if_pos c10] at H
              have c10b0 := eq_true c10
              have c10b1 : decide ((ji5) ≤ (a0.size : Int)) = true := decide_eq_true c10
              clear c10
              replace H := Option.bind_eq_some_iff.mp H
              obtain ⟨t159, A110, H⟩ := H
              replace H : ((plaitingref1_Bits.f k t159 16).bind fun t160 => (if (a0.extract ((ji5) : Int).toNat ((wrap64 ((a0.size : Int) - 1)) : Int).toNat).toList = t160.toList then (some (a0.extract 0 ((ji5) : Int).toNat, 0)) else (some ((⟨#[]⟩ : ByteArray), 5)))) = some (r1, r2) := H
              have A11 := Aside0.mk A110
              clear A110
              replace H := Option.bind_eq_some_iff.mp H
              obtain ⟨t160, A120, H⟩ := H
              replace H : (if (a0.extract ((ji5) : Int).toNat ((wrap64 ((a0.size : Int) - 1)) : Int).toNat).toList = t160.toList then (some (a0.extract 0 ((ji5) : Int).toNat, 0)) else (some ((⟨#[]⟩ : ByteArray), 5))) = some (r1, r2) := H
              have A12 := Aside0.mk A120
              clear A120
              by_cases c13 : (a0.extract ((ji5) : Int).toNat ((wrap64 ((a0.size : Int) - 1)) : Int).toNat).toList = t160.toList
              · rw [if_pos c13] at H
                have c13b0 : ((a0.extract ((ji5) : Int).toNat ((wrap64 ((a0.size : Int) - 1)) : Int).toNat).toList == t160.toList) = true := beq_iff_eq.mpr c13
                have c13b1 : ((a0.extract ((ji5) : Int).toNat ((wrap64 ((a0.size : Int) - 1)) : Int).toNat).toList != t160.toList) = false := bne_eq_false_iff_eq.mpr c13
                (try (have c13b0n := c13b0; simp only [ByteArray.size_append, Int.natCast_add] at c13b0n))
                (try (have c13b1n := c13b1; simp only [ByteArray.size_append, Int.natCast_add] at c13b1n))
                clear c13
                have c14b0 := eq_true (of_decide_eq_true (by first | (with_reducible assumption) | assumption) : 0 ≤ (ji5))
                have c15b0 := eq_true (of_decide_eq_true (by first | (with_reducible assumption) | assumption) : (ji5) ≤ (a0.size : Int))
                simp only [Option.some.injEq, Prod.mk.injEq] at H
                obtain ⟨rfl, rfl⟩ := H
                go_enter Try.func55, Try.ntmps55
                go_wp2_with (first | (go_at_call 56; (with_reducible refine (plaitingref1_Whole.calls k a0 true _ A2.out).mono ?_); rintro e w' ⟨rfl, ⟨nd, rfl⟩⟩; (try first | exact ⟨rfl, _, World.drewN_drewN _ _ _⟩ | exact ⟨rfl, _, Eq.trans (World.drewN_drewN _ _ _) (congrArg (World.drewN _) (Nat.add_assoc _ _ _))⟩)) | (go_at_call 52; (with_reducible refine (plaitingref2_Sum.calls k (a0.extract 0 ((ji5) : Int).toNat) t159 _ A11.out).mono ?_); rintro e w' ⟨rfl, ⟨nd, rfl⟩⟩; (try first | exact ⟨rfl, _, World.drewN_drewN _ _ _⟩ | exact ⟨rfl, _, Eq.trans (World.drewN_drewN _ _ _) (congrArg (World.drewN _) (Nat.add_assoc _ _ _))⟩)) | (go_at_call 36; (with_reducible refine (plaitingref1_Bits.calls k t159 16 t160 _ A12.out).mono ?_); rintro e w' ⟨rfl, ⟨nd, rfl⟩⟩; (try first | exact ⟨rfl, _, World.drewN_drewN _ _ _⟩ | exact ⟨rfl, _, Eq.trans (World.drewN_drewN _ _ _) (congrArg (World.drewN _) (Nat.add_assoc _ _ _))⟩)))
                repeat (go_quiet (first | (go_at_call 56; (with_reducible refine (plaitingref1_Whole.calls k a0 true _ A2.out).mono ?_); rintro e w' ⟨rfl, ⟨nd, rfl⟩⟩; (try first | exact ⟨rfl, _, World.drewN_drewN _ _ _⟩ | exact ⟨rfl, _, Eq.trans (World.drewN_drewN _ _ _) (congrArg (World.drewN _) (Nat.add_assoc _ _ _))⟩)) | (go_at_call 52; (with_reducible refine (plaitingref2_Sum.calls k (a0.extract 0 ((ji5) : Int).toNat) t159 _ A11.out).mono ?_); rintro e w' ⟨rfl, ⟨nd, rfl⟩⟩; (try first | exact ⟨rfl, _, World.drewN_drewN _ _ _⟩ | exact ⟨rfl, _, Eq.trans (World.drewN_drewN _ _ _) (congrArg (World.drewN _) (Nat.add_assoc _ _ _))⟩)) | (go_at_call 36; (with_reducible refine (plaitingref1_Bits.calls k t159 16 t160 _ A12.out).mono ?_); rintro e w' ⟨rfl, ⟨nd, rfl⟩⟩; (try first | exact ⟨rfl, _, World.drewN_drewN _ _ _⟩ | exact ⟨rfl, _, Eq.trans (World.drewN_drewN _ _ _) (congrArg (World.drewN _) (Nat.add_assoc _ _ _))⟩))); try go_wp2_with (first | (go_at_call 56; (with_reducible refine (plaitingref1_Whole.calls k a0 true _ A2.out).mono ?_); rintro e w' ⟨rfl, ⟨nd, rfl⟩⟩; (try first | exact ⟨rfl, _, World.drewN_drewN _ _ _⟩ | exact ⟨rfl, _, Eq.trans (World.drewN_drewN _ _ _) (congrArg (World.drewN _) (Nat.add_assoc _ _ _))⟩)) | (go_at_call 52; (with_reducible refine (plaitingref2_Sum.calls k (a0.extract 0 ((ji5) : Int).toNat) t159 _ A11.out).mono ?_); rintro e w' ⟨rfl, ⟨nd, rfl⟩⟩; (try first | exact ⟨rfl, _, World.drewN_drewN _ _ _⟩ | exact ⟨rfl, _, Eq.trans (World.drewN_drewN _ _ _) (congrArg (World.drewN _) (Nat.add_assoc _ _ _))⟩)) | (go_at_call 36; (with_reducible refine (plaitingref1_Bits.calls k t159 16 t160 _ A12.out).mono ?_); rintro e w' ⟨rfl, ⟨nd, rfl⟩⟩; (try first | exact ⟨rfl, _, World.drewN_drewN _ _ _⟩ | exact ⟨rfl, _, Eq.trans (World.drewN_drewN _ _ _) (congrArg (World.drewN _) (Nat.add_assoc _ _ _))⟩))))
                go_ret2
                exact ⟨by first | rfl | (simp; done) | (simp only [← hji5] <;> (first | rfl | simp)) | (simp [*]; done), by repeat (first | exact Drawn0.refl _ | apply Drawn0.step)⟩
              · rw [if_neg c13] at H
                have c13b0 : ((a0.extract ((ji5) : Int).toNat ((wrap64 ((a0.size : Int) - 1)) : Int).toNat).toList == t160.toList) = false := beq_eq_false_iff_ne.mpr c13
                have c13b1 : ((a0.extract ((ji5) : Int).toNat ((wrap64 ((a0.size : Int) - 1)) : Int).toNat).toList != t160.toList) = true := bne_iff_ne.mpr c13
                (try (have c13b0n := c13b0; simp only [ByteArray.size_append, Int.natCast_add] at c13b0n))
                (try (have c13b1n := c13b1; simp only [ByteArray.size_append, Int.natCast_add] at c13b1n))
                simp only [Option.some.injEq, Prod.mk.injEq] at H
                obtain ⟨rfl, rfl⟩ := H
                go_enter Try.func55, Try.ntmps55
                go_wp2_with (first | (go_at_call 56; (with_reducible refine (plaitingref1_Whole.calls k a0 true _ A2.out).mono ?_); rintro e w' ⟨rfl, ⟨nd, rfl⟩⟩; (try first | exact ⟨rfl, _, World.drewN_drewN _ _ _⟩ | exact ⟨rfl, _, Eq.trans (World.drewN_drewN _ _ _) (congrArg (World.drewN _) (Nat.add_assoc _ _ _))⟩)) | (go_at_call 52; (with_reducible refine (plaitingref2_Sum.calls k (a0.extract 0 ((ji5) : Int).toNat) t159 _ A11.out).mono ?_); rintro e w' ⟨rfl, ⟨nd, rfl⟩⟩; (try first | exact ⟨rfl, _, World.drewN_drewN _ _ _⟩ | exact ⟨rfl, _, Eq.trans (World.drewN_drewN _ _ _) (congrArg (World.drewN _) (Nat.add_assoc _ _ _))⟩)) | (go_at_call 36; (with_reducible refine (plaitingref1_Bits.calls k t159 16 t160 _ A12.out).mono ?_); rintro e w' ⟨rfl, ⟨nd, rfl⟩⟩; (try first | exact ⟨rfl, _, World.drewN_drewN _ _ _⟩ | exact ⟨rfl, _, Eq.trans (World.drewN_drewN _ _ _) (congrArg (World.drewN _) (Nat.add_assoc _ _ _))⟩)))
                repeat (go_quiet (first | (go_at_call 56; (with_reducible refine (plaitingref1_Whole.calls k a0 true _ A2.out).mono ?_); rintro e w' ⟨rfl, ⟨nd, rfl⟩⟩; (try first | exact ⟨rfl, _, World.drewN_drewN _ _ _⟩ | exact ⟨rfl, _, Eq.trans (World.drewN_drewN _ _ _) (congrArg (World.drewN _) (Nat.add_assoc _ _ _))⟩)) | (go_at_call 52; (with_reducible refine (plaitingref2_Sum.calls k (a0.extract 0 ((ji5) : Int).toNat) t159 _ A11.out).mono ?_); rintro e w' ⟨rfl, ⟨nd, rfl⟩⟩; (try first | exact ⟨rfl, _, World.drewN_drewN _ _ _⟩ | exact ⟨rfl, _, Eq.trans (World.drewN_drewN _ _ _) (congrArg (World.drewN _) (Nat.add_assoc _ _ _))⟩)) | (go_at_call 36; (with_reducible refine (plaitingref1_Bits.calls k t159 16 t160 _ A12.out).mono ?_); rintro e w' ⟨rfl, ⟨nd, rfl⟩⟩; (try first | exact ⟨rfl, _, World.drewN_drewN _ _ _⟩ | exact ⟨rfl, _, Eq.trans (World.drewN_drewN _ _ _) (congrArg (World.drewN _) (Nat.add_assoc _ _ _))⟩))); try go_wp2_with (first | (go_at_call 56; (with_reducible refine (plaitingref1_Whole.calls k a0 true _ A2.out).mono ?_); rintro e w' ⟨rfl, ⟨nd, rfl⟩⟩; (try first | exact ⟨rfl, _, World.drewN_drewN _ _ _⟩ | exact ⟨rfl, _, Eq.trans (World.drewN_drewN _ _ _) (congrArg (World.drewN _) (Nat.add_assoc _ _ _))⟩)) | (go_at_call 52; (with_reducible refine (plaitingref2_Sum.calls k (a0.extract 0 ((ji5) : Int).toNat) t159 _ A11.out).mono ?_); rintro e w' ⟨rfl, ⟨nd, rfl⟩⟩; (try first | exact ⟨rfl, _, World.drewN_drewN _ _ _⟩ | exact ⟨rfl, _, Eq.trans (World.drewN_drewN _ _ _) (congrArg (World.drewN _) (Nat.add_assoc _ _ _))⟩)) | (go_at_call 36; (with_reducible refine (plaitingref1_Bits.calls k t159 16 t160 _ A12.out).mono ?_); rintro e w' ⟨rfl, ⟨nd, rfl⟩⟩; (try first | exact ⟨rfl, _, World.drewN_drewN _ _ _⟩ | exact ⟨rfl, _, Eq.trans (World.drewN_drewN _ _ _) (congrArg (World.drewN _) (Nat.add_assoc _ _ _))⟩))))
                go_ret2
                exact ⟨by first | rfl | (simp; done) | (simp only [← hji5] <;> (first | rfl | simp)) | (simp [*]; done), by repeat (first | exact Drawn0.refl _ | apply Drawn0.step)⟩
            · rw [if_neg c10] at H
              exact absurd H (by simp)
          · rw [if_neg c8] at H
            exact absurd H (by simp)
        · rw [if_neg c7] at H
          exact absurd H (by simp)
      · rw [if_neg c6] at H
        exact absurd H (by simp)
  · replace c3 := Bool.eq_false_iff.mpr c3
    subst c3
    have H1 : (some ((⟨#[]⟩ : ByteArray), 4)) = some (r1, r2) := by rw [if_neg (show ¬ (false = true) by decide)] at H; exact H
    clear H
    have H := H1
    clear H1
    simp only [Option.some.injEq, Prod.mk.injEq] at H
    obtain ⟨rfl, rfl⟩ := H
    go_enter Try.func55, Try.ntmps55
    go_wp2_with (first | (go_at_call 56; (with_reducible refine (plaitingref1_Whole.calls k a0 false _ A2.out).mono ?_); rintro e w' ⟨rfl, ⟨nd, rfl⟩⟩; (try first | exact ⟨rfl, _, World.drewN_drewN _ _ _⟩ | exact ⟨rfl, _, Eq.trans (World.drewN_drewN _ _ _) (congrArg (World.drewN _) (Nat.add_assoc _ _ _))⟩)))
    repeat (go_quiet (first | (go_at_call 56; (with_reducible refine (plaitingref1_Whole.calls k a0 false _ A2.out).mono ?_); rintro e w' ⟨rfl, ⟨nd, rfl⟩⟩; (try first | exact ⟨rfl, _, World.drewN_drewN _ _ _⟩ | exact ⟨rfl, _, Eq.trans (World.drewN_drewN _ _ _) (congrArg (World.drewN _) (Nat.add_assoc _ _ _))⟩))); try go_wp2_with (first | (go_at_call 56; (with_reducible refine (plaitingref1_Whole.calls k a0 false _ A2.out).mono ?_); rintro e w' ⟨rfl, ⟨nd, rfl⟩⟩; (try first | exact ⟨rfl, _, World.drewN_drewN _ _ _⟩ | exact ⟨rfl, _, Eq.trans (World.drewN_drewN _ _ _) (congrArg (World.drewN _) (Nat.add_assoc _ _ _))⟩))))
    go_ret2
    exact ⟨by first | rfl | (simp; done) | (simp [*]; done), by repeat (first | exact Drawn0.refl _ | apply Drawn0.step)⟩

end Go.Proofs.Ytnggjnhfdjjphaa.PTwo
