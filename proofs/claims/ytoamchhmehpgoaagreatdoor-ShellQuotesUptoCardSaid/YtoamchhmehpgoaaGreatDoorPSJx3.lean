-- Written by the session's own program (wip/gen).
import Derived.Test.YtoamchhmehpgoaaGreatDoorPSJx0
import Derived.Test.YtoamchhmehpgoaaGreatDoorPSJx2
namespace Go.Proofs.YtoamchhmehpgoaaGreatDoor.PSJ
open Go.RowKit Go.Proofs.YtoamchhmehpgoaaGreatDoorW.PrintWords Go.Proofs.YtoamchhmehpgoaaGreatDoorW.PrintLast Go.Proofs.YtoamchhmehpgoaaGreatDoorW.PrintMore
attribute [local go_sem] max2_int min2_int max_two min_two max_three min_three max_four min_four   -- for this text's walks alone
set_option linter.unusedVariables false
set_option linter.unusedSimpArgs false

-- (by hand: sym.bitret)
theorem bit_ret (r : Int) (b : Bool) (w : World) (h : b = (r == 48 || r == 49)) :
    Calls Tryz.prog 211 #[.int .i32 r] w fun e w' => e = .returned (.bool b) ∧ w = w' := by
  subst h
  by_cases c2 : r = 48
  · have c2b0 : (r == 48) = true := beq_iff_eq.mpr c2
    have hc : (r == 48 || r == 49) = true := by simp [c2]
    rw [hc]
    clear c2 hc
    go_enter Tryz.func211, Tryz.ntmps211
    go_wp2
    go_ret
    exact ⟨rfl, rfl⟩
  · have c2b0 : (r == 48) = false := beq_eq_false_iff_ne.mpr c2
    have hc : (r == 48 || r == 49) = (r == 49) := by rw [c2b0]; rfl
    rw [hc]
    clear c2 hc
    go_enter Tryz.func211, Tryz.ntmps211
    go_wp2
    go_ret
    exact ⟨rfl, rfl⟩

/-! ### strings_IndexByte: function 29 (by hand) -/
def strings_IndexByte.f (a0 : ByteArray) (a1 : Int) : Option Int := some (Lib.indexByte a0.data.toList a1.toNat.toUInt8)
theorem strings_IndexByte.calls (a0 : ByteArray) (a1 : Int) (r : Int) (w : World) (h : strings_IndexByte.f a0 a1 = some r) :
    Calls Tryz.prog 29 #[.string a0, .int .u8 a1] w fun e w' => e = .returned (.int .i64 r) ∧ Drawn0 w w' := by
  obtain rfl := Option.some.inj h
  exact (Tryz.strings_IndexByte a0 a1 w).mono (by rintro e w' ⟨rfl, rfl⟩; exact ⟨rfl, ⟨0, rfl⟩⟩)
end Go.Proofs.YtoamchhmehpgoaaGreatDoor.PSJ
