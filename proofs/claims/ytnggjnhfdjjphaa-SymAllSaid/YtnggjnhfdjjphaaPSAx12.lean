-- Written by the session's own program (wip/gen).
import Derived.Test.YtnggjnhfdjjphaaPSAx0
import Derived.Test.YtnggjnhfdjjphaaPSAx1
import Derived.Test.YtnggjnhfdjjphaaPSAx11
namespace Go.Proofs.Ytnggjnhfdjjphaa.PSA
open Go.RowKit Go.Proofs.YtnggjnhfdjjphaaW.PrintWords Go.Proofs.YtnggjnhfdjjphaaW.PrintLast Go.Proofs.YtnggjnhfdjjphaaW.PrintMore
attribute [local go_sem] max2_int min2_int max_two min_two max_three min_three max_four min_four   -- for this text's walks alone
set_option linter.unusedVariables false
set_option linter.unusedSimpArgs false

/-! ### sym_Num: function 42 (by hand) -/
/-- What bits mean, behind a number that was read. -/
def numGo : Nat → List UInt8 → Option Nat
  | v, [] => some v
  | v, c :: l => if c.toNat = 48 ∨ c.toNat = 49 then numGo (2 * v + (c.toNat - 48)) l else none
def numEnd : Option Nat → Int × Bool
  | some v => ((v : Int), true)
  | none => (0, false)
def numOf (l : List UInt8) : Int × Bool := if l.length = 0 ∨ 62 < l.length then (0, false) else numEnd (numGo 0 l)
def sym_Num.f (a0 : ByteArray) : Option (Int × Bool) := some (numOf a0.data.toList)
theorem num_short (a0 : ByteArray) (w : World) (h : a0.size = 0 ∨ 62 < a0.size) :
    Calls Try.prog 42 #[.string a0] w fun e w' => e = .returned (.tuple #[.int .i64 0, .bool false]) ∧ Below w.heap.size w w' := by
  by_cases h0 : a0.size = 0
  · have hb : ((a0.size : Int) == 0) = true := by simp [h0]
    clear h h0
    go_enter Try.func42, Try.ntmps42
    go_wp2
    go_ret2
    exact ⟨rfl, Below.refl _ _⟩
  · have hb : ((a0.size : Int) == 0) = false := by rw [beq_eq_false_iff_ne]; omega
    have hc : decide (62 < (a0.size : Int)) = true := by simp; omega
    clear h h0
    go_enter Try.func42, Try.ntmps42
    go_wp2
    go_ret2
    exact ⟨rfl, Below.refl _ _⟩
set_option maxRecDepth 100000 in
theorem num_long (a0 : ByteArray) (w : World) (h1 : 0 < a0.size) (h2 : a0.size ≤ 62) (r1 : Int) (r2 : Bool) (hr : Aside0 (numEnd (numGo 0 a0.data.toList) = (r1, r2))) :
    Calls Try.prog 42 #[.string a0] w fun e w' => e = .returned (.tuple #[.int .i64 r1, .bool r2]) ∧ Below w.heap.size w w' := by
  have hb : ((a0.size : Int) == 0) = false := by rw [beq_eq_false_iff_ne]; omega
  have hc : decide (62 < (a0.size : Int)) = false := by simp; omega
  go_enter Try.func42, Try.ntmps42
  go_wp2
  go_loopw [4] (fun i w' => ∃ (pos : Nat) (v : Nat), w' = w.iter a0 pos ∧ i = .int .i64 v ∧ pos ≤ 62 ∧ Aside0 (v < 2 ^ pos) ∧ Aside0 (numGo 0 a0.data.toList = numGo v (a0.data.toList.drop pos))) (fun _ w' => a0.size - w'.iterPos w.heap.size)
  case atStart => exact ⟨0, 0, rfl, rfl, by omega, ⟨by simp⟩, ⟨by simp⟩⟩
  case round =>
    obtain ⟨pos, v, rfl, rfl, h62, HV, HC⟩ := hrel
    by_cases hp : pos < a0.size
    · obtain ⟨rv, n, hd, hn, hcase⟩ := rune_at a0 pos hp
      have hnx : ∀ ty, (Instr.next (.pointer (some ⟨w.heap.size, 0, none⟩)) true ty).run Try.prog (w.iter a0 pos) = .ok (.tuple #[.bool true, .int .i64 pos, .int .i32 rv]) (w.iter a0 (pos + n)) := fun ty => by
        have := run_next_any (P := Try.prog) w a0 pos ty hp
        rw [hd] at this
        exact this
      have hdr := drop_at a0 pos hp
      rw [hdr] at HC
      clear hd hdr
      have hv : v < 4611686018427387904 := Nat.lt_of_lt_of_le HV.out (Nat.le_trans (Nat.pow_le_pow_right (by decide) h62) (by decide))
      by_cases h01 : (a0[pos]'hp).toNat = 48 ∨ (a0[pos]'hp).toNat = 49
      · obtain rfl : n = 1 := by omega
        obtain ⟨b, rfl, hb1⟩ : ∃ b, rv = 48 + b ∧ b ≤ 1 := ⟨rv - 48, by omega, by omega⟩
        have hbit : true = (((48 + b : Nat) : Int) == 48 || ((48 + b : Nat) : Int) == 49) := by
          have : b = 0 ∨ b = 1 := by omega
          rcases this with rfl | rfl <;> rfl
        have HC' : Aside0 (numGo 0 a0.data.toList = numGo (2 * v + b) (a0.data.toList.drop (pos + 1))) := ⟨by rw [HC.out, numGo, if_pos h01]; congr 2; omega⟩
        have HV' : Aside0 (2 * v + b < 2 ^ (pos + 1)) := ⟨by have := HV.out; rw [Nat.pow_succ]; omega⟩
        have HO := Aside0.mk (or_double v b hv hb1)
        have HB := Aside0.mk hbit
        clear HC hcase h01 hbit HV
        go_wp2_with (go_at_call 59; refine (bit_ret _ _ _ HB.out).mono ?_; rintro e w' ⟨rfl, rfl⟩)
        go_roundw
        case rel => exact ⟨pos + 1, 2 * v + b, rfl, by rw [show (48 : Int) + (b : Int) - 48 = (b : Int) by omega, HO.out], by omega, HV', HC'⟩
        case measure => simp; omega
      · have hbit : false = ((rv : Int) == 48 || (rv : Int) == 49) := by
          have h48 : ((rv : Int) == 48) = false := by rw [beq_eq_false_iff_ne]; omega
          have h49 : ((rv : Int) == 49) = false := by rw [beq_eq_false_iff_ne]; omega
          rw [h48, h49]; rfl
        have HR : Aside0 ((0, false) = (r1, r2)) := ⟨by rw [← hr.out, HC.out, numGo, if_neg h01]; rfl⟩
        have HB := Aside0.mk hbit
        clear HC hcase h01 hbit HV
        go_wp2_with (go_at_call 59; refine (bit_ret _ _ _ HB.out).mono ?_; rintro e w' ⟨rfl, rfl⟩)
        go_ret2
        have e1 : (0 : Int) = r1 := congrArg Prod.fst HR.out
        have e2 : false = r2 := congrArg Prod.snd HR.out
        rw [← e1, ← e2]
        exact ⟨rfl, (Below.refl _ _).alloc (Nat.le_refl _) _⟩
    · have hnx : ∀ ty, (Instr.next (.pointer (some ⟨w.heap.size, 0, none⟩)) true ty).run Try.prog (w.iter a0 pos) = _ := fun ty => run_next_end w a0 pos ty hp
      have HR : Aside0 (((v : Int), true) = (r1, r2)) := ⟨by
        rw [← hr.out, HC.out, List.drop_of_length_le (by simp; omega)]; rfl⟩
      clear HC HV
      go_wp2
      go_ret2
      have e1 : (v : Int) = r1 := congrArg Prod.fst HR.out
      have e2 : true = r2 := congrArg Prod.snd HR.out
      rw [← e1, ← e2]
      exact ⟨rfl, (Below.refl _ _).alloc (Nat.le_refl _) _⟩
theorem sym_Num.calls (a0 : ByteArray) (r1 : Int) (r2 : Bool) (w : World) (h : sym_Num.f a0 = some (r1, r2)) :
    Calls Try.prog 42 #[.string a0] w fun e w' => e = .returned (.tuple #[.int .i64 r1, .bool r2]) ∧ Below w.heap.size w w' := by
  have h' := Option.some.inj h
  unfold numOf at h'
  have hl : a0.data.toList.length = a0.size := Array.length_toList
  rw [hl] at h'
  split at h'
  · rename_i hc
    have e1 : (0 : Int) = r1 := congrArg Prod.fst h'
    have e2 : false = r2 := congrArg Prod.snd h'
    rw [← e1, ← e2]
    exact num_short a0 w hc
  · exact num_long a0 w (by omega) (by omega) r1 r2 ⟨h'⟩

end Go.Proofs.Ytnggjnhfdjjphaa.PSA
