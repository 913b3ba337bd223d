-- Written by the session's own program (wip/gen).
import Derived.Test.YtnggjnhfdjjphaaPTwox0
import Derived.Test.YtnggjnhfdjjphaaPTwox1
import Derived.Test.YtnggjnhfdjjphaaPTwox7
namespace Go.Proofs.Ytnggjnhfdjjphaa.PTwo
open Go.RowKit Go.Proofs.YtnggjnhfdjjphaaW.PrintWords Go.Proofs.YtnggjnhfdjjphaaW.PrintLast Go.Proofs.YtnggjnhfdjjphaaW.PrintMore
attribute [local go_sem] max2_int min2_int max_two min_two max_three min_three max_four min_four   -- for this text's walks alone
set_option linter.unusedVariables false
set_option linter.unusedSimpArgs false

/-! ### sym_Clean: function 38 (by hand) -/
/-- How many bytes of a text stand in the stream at its front. -/
def cleanLen : List UInt8 → Nat
  | [] => 0
  | c :: l => if c.toNat = 35 then 1 else if c.toNat = 48 ∨ c.toNat = 49 then cleanLen l + 1 else 0
theorem cleanLen_le : ∀ l : List UInt8, cleanLen l ≤ l.length
  | [] => Nat.le_refl _
  | c :: l => by
    have := cleanLen_le l
    unfold cleanLen
    split
    · simp
    · split
      · simp; omega
      · simp
def sym_Clean.f (a0 : ByteArray) : Option ByteArray := if a0.size ≤ 4611686018427387904 then some (a0.extract 0 (cleanLen a0.data.toList)) else none
set_option maxRecDepth 100000 in
theorem sym_Clean.calls (a0 : ByteArray) (r : ByteArray) (w : World) (h : sym_Clean.f a0 = some r) :
    Calls Try.prog 38 #[.string a0] w fun e w' => e = .returned (.string r) ∧ Below w.heap.size w w' := by
  have hs : a0.size ≤ 4611686018427387904 := by
    unfold sym_Clean.f at h
    split at h
    · assumption
    · exact absurd h (by simp)
  obtain rfl : a0.extract 0 (cleanLen a0.data.toList) = r := by
    unfold sym_Clean.f at h
    rw [if_pos hs] at h
    exact Option.some.inj h
  clear h
  go_enter Try.func38, Try.ntmps38
  go_wp2
  go_loopw [3] (fun i w' => ∃ (pos : Nat) (x : Value), w' = w.iter a0 pos ∧ i = x ∧ Aside0 (cleanLen a0.data.toList = pos + cleanLen (a0.data.toList.drop pos))) (fun _ w' => a0.size - w'.iterPos w.heap.size)
  case atStart => exact ⟨0, _, rfl, rfl, ⟨by simp⟩⟩
  case round =>
    obtain ⟨pos, x, rfl, rfl, HC⟩ := hrel
    by_cases hp : pos < a0.size
    · obtain ⟨rv, n, hd, hn, hcase⟩ := rune_at a0 pos hp
      have hnx : ∀ ty, (Instr.next (.pointer (some ⟨w.heap.size, 0, none⟩)) true ty).run Try.prog (w.iter a0 pos) = .ok (.tuple #[.bool true, .int .i64 pos, .int .i32 rv]) (w.iter a0 (pos + n)) := fun ty => by
        have := run_next_any (P := Try.prog) w a0 pos ty hp
        rw [hd] at this
        exact this
      have hdr := drop_at a0 pos hp
      rw [hdr] at HC
      clear hd hdr
      by_cases h35 : (a0[pos]'hp).toNat = 35
      · have hr : rv = 35 := by omega
        have hb : ((rv : Int) == 35) = true := by simp [hr]
        have HC' : Aside0 (cleanLen a0.data.toList = pos + 1) := ⟨by rw [HC.out]; simp [cleanLen, h35]⟩
        clear HC h35 hcase hr
        go_wp2
        go_ret
        refine ⟨?_, (Below.refl _ _).alloc (Nat.le_refl _) _⟩
        rw [HC'.out]
        simp
      · have hb : ((rv : Int) == 35) = false := by
          rw [beq_eq_false_iff_ne]; omega
        by_cases h01 : (a0[pos]'hp).toNat = 48 ∨ (a0[pos]'hp).toNat = 49
        · have hbit : true = ((rv : Int) == 48 || (rv : Int) == 49) := by
            rcases h01 with h | h
            · have : rv = 48 := by omega
              simp [this]
            · have : rv = 49 := by omega
              simp [this]
          obtain rfl : n = 1 := by omega
          have HC' : Aside0 (cleanLen a0.data.toList = pos + 1 + cleanLen (a0.data.toList.drop (pos + 1))) := ⟨by rw [HC.out]; simp only [cleanLen, h35, h01, if_true, if_false]; omega⟩
          have HB := Aside0.mk hbit
          clear HC h35 hcase h01 hbit
          go_wp2_with (go_at_call 59; refine (bit_ret _ _ _ HB.out).mono ?_; rintro e w' ⟨rfl, rfl⟩)
          go_roundw
          case rel => exact ⟨pos + 1, _, rfl, rfl, HC'⟩
          case measure => simp; omega
        · have hbit : false = ((rv : Int) == 48 || (rv : Int) == 49) := by
            have h48 : ((rv : Int) == 48) = false := by rw [beq_eq_false_iff_ne]; omega
            have h49 : ((rv : Int) == 49) = false := by rw [beq_eq_false_iff_ne]; omega
            rw [h48, h49]; rfl
          have HC' : Aside0 (cleanLen a0.data.toList = pos) := ⟨by rw [HC.out]; simp only [cleanLen, h35, h01, if_false]; omega⟩
          have HB := Aside0.mk hbit
          clear HC h35 hcase h01 hbit
          go_wp2_with (go_at_call 59; refine (bit_ret _ _ _ HB.out).mono ?_; rintro e w' ⟨rfl, rfl⟩)
          go_ret
          refine ⟨?_, (Below.refl _ _).alloc (Nat.le_refl _) _⟩
          rw [HC'.out]
          simp
    · have hnx : ∀ ty, (Instr.next (.pointer (some ⟨w.heap.size, 0, none⟩)) true ty).run Try.prog (w.iter a0 pos) = _ := fun ty => run_next_end w a0 pos ty hp
      have HC' : Aside0 (cleanLen a0.data.toList ≥ a0.size) := ⟨by rw [HC.out]; omega⟩
      clear HC
      go_wp2
      go_ret
      refine ⟨?_, (Below.refl _ _).alloc (Nat.le_refl _) _⟩
      have : a0.extract 0 (cleanLen a0.data.toList) = a0 := extract_all a0 _ HC'.out
      rw [this]
      rfl

/-! ### stringslite_HasSuffix: function 64 -/
def stringslite_HasSuffix.f (a0 : ByteArray) (a1 : ByteArray) : Option (Bool) := if (a0.size : Int) ≥ (a1.size : Int) then (if 0 ≤ (wrap64 ((a0.size : Int) - (a1.size : Int))) then (if (wrap64 ((a0.size : Int) - (a1.size : Int))) ≤ (a0.size : Int) then (some ((a0.extract ((wrap64 ((a0.size : Int) - (a1.size : Int))) : Int).toNat a0.size).toList == a1.toList)) else (none)) else (none)) else (some false)
set_option maxHeartbeats 8000000 in
set_option maxRecDepth 100000 in
theorem stringslite_HasSuffix.calls (a0 : ByteArray) (a1 : ByteArray) (r : Bool) (w : World) (h : stringslite_HasSuffix.f a0 a1 = some r) :
    Calls Try.prog 64 #[.string a0, .string a1] w fun e w' => e = .returned (.bool r) ∧ Drawn0 w w' := by
  have H : (if (a0.size : Int) ≥ (a1.size : Int) then (if 0 ≤ (wrap64 ((a0.size : Int) - (a1.size : Int))) then (if (wrap64 ((a0.size : Int) - (a1.size : Int))) ≤ (a0.size : Int) then (some ((a0.extract ((wrap64 ((a0.size : Int) - (a1.size : Int))) : Int).toNat a0.size).toList == a1.toList)) else (none)) else (none)) else (some false)) = some r := h
  clear h
  by_cases c3 : (a0.size : Int) ≥ (a1.size : Int)
  · rw [if_pos c3] at H
    have c3b0 : decide ((a1.size : Int) ≤ (a0.size : Int)) = true := decide_eq_true c3
    have c3b1 : decide (a1.size ≤ a0.size) = true := decide_eq_true (Int.ofNat_le.mp c3)
    clear c3
    obtain ⟨ji4, hji4⟩ : ∃ j_ : Int, (wrap64 ((a0.size : Int) - (a1.size : Int))) = j_ := ⟨_, rfl⟩
    replace H : (if 0 ≤ (ji4) then (if (ji4) ≤ (a0.size : Int) then (some ((a0.extract ((ji4) : Int).toNat a0.size).toList == a1.toList)) else (none)) else (none)) = some r := by first | (rw [hji4] at H; exact H) | (simp only [hji4] at H ⊢; exact H)
    have hji4w : (IntKind.i64.wrap ((a0.size : Int) - (a1.size : Int))) = ji4 := (i64_w _).trans hji4
    by_cases c5 : 0 ≤ (ji4)
    · rw [if_pos c5] at H
      have c5b0 := eq_true c5
      have c5b1 : decide (0 ≤ (ji4)) = true := decide_eq_true c5
      clear c5
      by_cases c6 : (ji4) ≤ (a0.size : Int)
      · rw [if_pos c6] at H
        have c6b0 := eq_true c6
        have c6b1 : decide ((ji4) ≤ (a0.size : Int)) = true := decide_eq_true c6
        clear c6
        obtain rfl := Option.some.inj H
        go_enter Try.func64, Try.ntmps64
        go_wp2
        go_ret
        exact ⟨by first | rfl | (simp; done) | (simp only [← hji4] <;> (first | rfl | simp)) | (simp [*]; done), by repeat (first | exact Drawn0.refl _ | apply Drawn0.step)⟩
      · rw [if_neg c6] at H
        exact absurd H (by simp)
    · rw [if_neg c5] at H
      exact absurd H (by simp)
  · rw [if_neg c3] at H
    have c3b0 : decide ((a1.size : Int) ≤ (a0.size : Int)) = false := decide_eq_false c3
    have c3b1 : decide (a1.size ≤ a0.size) = false := decide_eq_false (fun h => c3 (Int.ofNat_le.mpr h))
    clear c3
    obtain rfl := Option.some.inj H
    go_enter Try.func64, Try.ntmps64
    go_wp2
    go_ret
    exact ⟨by first | rfl | (simp; done) | (simp [*]; done), by repeat (first | exact Drawn0.refl _ | apply Drawn0.step)⟩

/-! ### strings_HasSuffix: function 61 -/
def strings_HasSuffix.f (a0 : ByteArray) (a1 : ByteArray) : Option (Bool) := (stringslite_HasSuffix.f a0 a1).bind fun t134 => (some t134)
set_option maxHeartbeats 8000000 in
set_option maxRecDepth 100000 in
theorem strings_HasSuffix.calls (a0 : ByteArray) (a1 : ByteArray) (r : Bool) (w : World) (h : strings_HasSuffix.f a0 a1 = some r) :
    Calls Try.prog 61 #[.string a0, .string a1] w fun e w' => e = .returned (.bool r) ∧ Drawn0 w w' := by
  have H : ((stringslite_HasSuffix.f a0 a1).bind fun t134 => (some t134)) = some r := h
  clear h
  replace H := Option.bind_eq_some_iff.mp H
  obtain ⟨t134, A30, H⟩ := H
  replace H : (some t134) = some r := H
  have A3 := Aside0.mk A30
  clear A30
  obtain rfl := Option.some.inj H
  go_enter Try.func61, Try.ntmps61
  go_wp2_with (first | ((with_reducible refine gate_callee (f := 64) rfl ?_); refine goesL_ (some 7) rfl rfl Try.func64 (by kernel_rfl) rfl #[.string a0, .string a1] rfl (by (try simp only [List.map_toArray, List.map_cons, List.map_nil]); first | done | rfl | (simp only [List.length_drop, List.length_take]; rfl)) ?_; (with_reducible refine (stringslite_HasSuffix.calls a0 a1 t134 _ A3.out).mono ?_); rintro e w' ⟨rfl, ⟨nd, rfl⟩⟩; refine ⟨_, rfl, ?_⟩))
  go_ret
  exact ⟨by first | rfl | (simp; done) | (simp [*]; done), by repeat (first | exact Drawn0.refl _ | apply Drawn0.step)⟩

/-! ### sym_Whole: function 41 -/
def sym_Whole.f (a0 : ByteArray) : Option (Bool) := (strings_HasSuffix.f a0 (⟨#[35]⟩ : ByteArray)).bind fun t135 => (if t135 = true then ((sym_Clean.f a0).bind fun t136 => (some (t136.toList == a0.toList))) else (some false))
set_option maxHeartbeats 8000000 in
set_option maxRecDepth 100000 in
theorem sym_Whole.calls (a0 : ByteArray) (r : Bool) (w : World) (h : sym_Whole.f a0 = some r) :
    Calls Try.prog 41 #[.string a0] w fun e w' => e = .returned (.bool r) ∧ Below w.heap.size w w' := by
  have HB := Aside0.mk (Below.refl w.heap.size w)
  have H : ((strings_HasSuffix.f a0 (⟨#[35]⟩ : ByteArray)).bind fun t135 => (if t135 = true then ((sym_Clean.f a0).bind fun t136 => (some (t136.toList == a0.toList))) else (some false))) = some r := h
  clear h
  replace H := Option.bind_eq_some_iff.mp H
  obtain ⟨t135, A20, H⟩ := H
  replace H : (if t135 = true then ((sym_Clean.f a0).bind fun t136 => (some (t136.toList == a0.toList))) else (some false)) = some r := H
  have A2 := Aside0.mk A20
  clear A20
  by_cases c3 : t135 = true
  · subst c3
    have H1 : ((sym_Clean.f a0).bind fun t136 => (some (t136.toList == a0.toList))) = some r := by rw [if_pos rfl] at H; exact H
    clear H
    have H := H1
    clear H1
    replace H := Option.bind_eq_some_iff.mp H
    obtain ⟨t136, A40, H⟩ := H
    replace H : (some (t136.toList == a0.toList)) = some r := H
    have A4 := Aside0.mk A40
    clear A40
    obtain rfl := Option.some.inj H
    go_enter Try.func41, Try.ntmps41
    go_wp2_with (first | ((with_reducible refine gate_callee (f := 61) rfl ?_); refine goesL_ (some 4) rfl rfl Try.func61 (by kernel_rfl) rfl #[.string a0, .string (⟨#[35]⟩ : ByteArray)] rfl (by (try simp only [List.map_toArray, List.map_cons, List.map_nil]); first | done | rfl | (simp only [List.length_drop, List.length_take]; rfl)) ?_; (with_reducible refine (strings_HasSuffix.calls a0 (⟨#[35]⟩ : ByteArray) true _ A2.out).mono ?_); rintro e w' ⟨rfl, ⟨nd, rfl⟩⟩; refine ⟨_, rfl, ?_⟩) | (go_at_call 38; (with_reducible refine (sym_Clean.calls a0 t136 _ A4.out).mono ?_); rintro e w5 ⟨rfl, hb⟩; have n0_ := Aside0.mk (below_step (by repeat (first | (with_reducible first | exact HB.out | apply below_alloc | apply pw_below_drewN | apply below_drew1) | exact HB.out)) hb); clear HB; have HB := n0_; clear n0_; (try clear hb); (try clear hb2); (try clear hk); (try clear hi)))
    go_ret
    exact ⟨by first | rfl | (simp [errW_none, errW_some] <;> rfl) | (simp [*, errW_none, errW_some] <;> rfl), by repeat (first | (with_reducible first | exact HB.out | apply below_alloc | apply pw_below_drewN | apply below_drew1) | exact HB.out)⟩
  · replace c3 := Bool.eq_false_iff.mpr c3
    subst c3
    have H1 : (some false) = some r := by rw [if_neg (show ¬ (false = true) by decide)] at H; exact H
    clear H
    have H := H1
    clear H1
    obtain rfl := Option.some.inj H
    go_enter Try.func41, Try.ntmps41
    go_wp2_with (first | ((with_reducible refine gate_callee (f := 61) rfl ?_); refine goesL_ (some 4) rfl rfl Try.func61 (by kernel_rfl) rfl #[.string a0, .string (⟨#[35]⟩ : ByteArray)] rfl (by (try simp only [List.map_toArray, List.map_cons, List.map_nil]); first | done | rfl | (simp only [List.length_drop, List.length_take]; rfl)) ?_; (with_reducible refine (strings_HasSuffix.calls a0 (⟨#[35]⟩ : ByteArray) false _ A2.out).mono ?_); rintro e w' ⟨rfl, ⟨nd, rfl⟩⟩; refine ⟨_, rfl, ?_⟩))
    go_ret
    exact ⟨by first | rfl | (simp [errW_none, errW_some] <;> rfl) | (simp [*, errW_none, errW_some] <;> rfl), by repeat (first | (with_reducible first | exact HB.out | apply below_alloc | apply pw_below_drewN | apply below_drew1) | exact HB.out)⟩

end Go.Proofs.Ytnggjnhfdjjphaa.PTwo
