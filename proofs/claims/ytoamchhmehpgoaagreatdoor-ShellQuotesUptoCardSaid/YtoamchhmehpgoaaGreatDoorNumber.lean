/- What the shell's numbers are, at a few words. -/
import Derived.Test.YtoamchhmehpgoaaGreatDoorCk
import Derived.Lib.AtoiErrMem
namespace Go.Proofs.YtoamchhmehpgoaaGreatDoor.PSJ
open Go Go.RowKit Go.Proofs.YtoamchhmehpgoaaGreatDoorW.PrintWords Go.Proofs.YtoamchhmehpgoaaGreatDoorW.PrintLast Go.Proofs.YtoamchhmehpgoaaGreatDoorW.PrintMore
attribute [local go_sem] max2_int min2_int max_two min_two max_three min_three max_four min_four
set_option linter.unusedVariables false
set_option linter.unusedSimpArgs false
set_option maxRecDepth 100000 in
theorem number_6 (w : World) : Calls Tryz.prog 40 #[.string ⟨#[54]⟩] w fun e w' => e = .returned (.tuple #[.int .i64 6, .bool true]) ∧ Below w.heap.size w w' := by
  have HT := Tryz.strings_TrimPrefix ⟨#[54]⟩ ⟨#[45]⟩ w
  rw [show (⟨(Lib.trimPrefix (⟨#[54]⟩ : ByteArray).data.toList (⟨#[45]⟩ : ByteArray).data.toList).toArray⟩ : ByteArray) = ⟨#[54]⟩ from by kernel_rfl] at HT
  have HA := fun W => Tryz.strconv_Atoi ⟨#[54]⟩ 6 (by decide) (by kernel_rfl) W
  go_enter Tryz.func40, Tryz.ntmps40
  go_wp2_with (go_at_call 63; refine HT.mono ?_; rintro e w' ⟨rfl, hw'⟩; subst w')
  go_loopw [6] (fun _ w' => ∃ (pos : Nat), w' = w.iter ⟨#[54]⟩ pos ∧ pos ≤ 1) (fun _ w' => 1 - w'.iterPos w.heap.size)
  case atStart => exact ⟨0, rfl, by omega⟩
  case round =>
    obtain ⟨pos, rfl, hp⟩ := hrel
    match pos, hp with
    | 0, _ =>
      have hnx : ∀ ty, (Instr.next (.pointer (some ⟨w.heap.size, 0, none⟩)) true ty).run Tryz.prog (w.iter ⟨#[54]⟩ 0) = .ok (.tuple #[.bool true, .int .i64 0, .int .i32 54]) (w.iter ⟨#[54]⟩ 1) := fun ty => (run_next_any (P := Tryz.prog) w ⟨#[54]⟩ 0 ty (by decide)).trans (by rfl)
      go_wp2
      go_roundw
      case rel => exact ⟨1, rfl, by omega⟩
      case measure => simp
    | 1, _ =>
      have hnx : ∀ ty, (Instr.next (.pointer (some ⟨w.heap.size, 0, none⟩)) true ty).run Tryz.prog (w.iter ⟨#[54]⟩ 1) = _ := fun ty => run_next_end w ⟨#[54]⟩ 1 ty (by decide)
      go_wp2_with (go_at_call 64; refine (HA _).mono ?_; rintro e w' ⟨rfl, t, rfl⟩)
      go_ret2
      exact ⟨rfl, below_step ((Below.refl _ _).alloc (Nat.le_refl _) _) (Lib.bytesWorld_below _ _ _)⟩
    | n + 2, hp => exact absurd hp (by omega)
set_option maxRecDepth 100000 in
theorem number_50 (w : World) : Calls Tryz.prog 40 #[.string ⟨#[53, 48]⟩] w fun e w' => e = .returned (.tuple #[.int .i64 50, .bool true]) ∧ Below w.heap.size w w' := by
  have HT := Tryz.strings_TrimPrefix ⟨#[53, 48]⟩ ⟨#[45]⟩ w
  rw [show (⟨(Lib.trimPrefix (⟨#[53, 48]⟩ : ByteArray).data.toList (⟨#[45]⟩ : ByteArray).data.toList).toArray⟩ : ByteArray) = ⟨#[53, 48]⟩ from by kernel_rfl] at HT
  have HA := fun W => Tryz.strconv_Atoi ⟨#[53, 48]⟩ 50 (by decide) (by kernel_rfl) W
  go_enter Tryz.func40, Tryz.ntmps40
  go_wp2_with (go_at_call 63; refine HT.mono ?_; rintro e w' ⟨rfl, hw'⟩; subst w')
  go_loopw [6] (fun _ w' => ∃ (pos : Nat), w' = w.iter ⟨#[53, 48]⟩ pos ∧ pos ≤ 2) (fun _ w' => 2 - w'.iterPos w.heap.size)
  case atStart => exact ⟨0, rfl, by omega⟩
  case round =>
    obtain ⟨pos, rfl, hp⟩ := hrel
    match pos, hp with
    | 0, _ =>
      have hnx : ∀ ty, (Instr.next (.pointer (some ⟨w.heap.size, 0, none⟩)) true ty).run Tryz.prog (w.iter ⟨#[53, 48]⟩ 0) = .ok (.tuple #[.bool true, .int .i64 0, .int .i32 53]) (w.iter ⟨#[53, 48]⟩ 1) := fun ty => (run_next_any (P := Tryz.prog) w ⟨#[53, 48]⟩ 0 ty (by decide)).trans (by rfl)
      go_wp2
      go_roundw
      case rel => exact ⟨1, rfl, by omega⟩
      case measure => simp
    | 1, _ =>
      have hnx : ∀ ty, (Instr.next (.pointer (some ⟨w.heap.size, 0, none⟩)) true ty).run Tryz.prog (w.iter ⟨#[53, 48]⟩ 1) = .ok (.tuple #[.bool true, .int .i64 1, .int .i32 48]) (w.iter ⟨#[53, 48]⟩ 2) := fun ty => (run_next_any (P := Tryz.prog) w ⟨#[53, 48]⟩ 1 ty (by decide)).trans (by rfl)
      go_wp2
      go_roundw
      case rel => exact ⟨2, rfl, by omega⟩
      case measure => simp
    | 2, _ =>
      have hnx : ∀ ty, (Instr.next (.pointer (some ⟨w.heap.size, 0, none⟩)) true ty).run Tryz.prog (w.iter ⟨#[53, 48]⟩ 2) = _ := fun ty => run_next_end w ⟨#[53, 48]⟩ 2 ty (by decide)
      go_wp2_with (go_at_call 64; refine (HA _).mono ?_; rintro e w' ⟨rfl, t, rfl⟩)
      go_ret2
      exact ⟨rfl, below_step ((Below.refl _ _).alloc (Nat.le_refl _) _) (Lib.bytesWorld_below _ _ _)⟩
    | n + 3, hp => exact absurd hp (by omega)
set_option maxRecDepth 100000 in
theorem number_1 (w : World) : Calls Tryz.prog 40 #[.string ⟨#[49]⟩] w fun e w' => e = .returned (.tuple #[.int .i64 1, .bool true]) ∧ Below w.heap.size w w' := by
  have HT := Tryz.strings_TrimPrefix ⟨#[49]⟩ ⟨#[45]⟩ w
  rw [show (⟨(Lib.trimPrefix (⟨#[49]⟩ : ByteArray).data.toList (⟨#[45]⟩ : ByteArray).data.toList).toArray⟩ : ByteArray) = ⟨#[49]⟩ from by kernel_rfl] at HT
  have HA := fun W => Tryz.strconv_Atoi ⟨#[49]⟩ 1 (by decide) (by kernel_rfl) W
  go_enter Tryz.func40, Tryz.ntmps40
  go_wp2_with (go_at_call 63; refine HT.mono ?_; rintro e w' ⟨rfl, hw'⟩; subst w')
  go_loopw [6] (fun _ w' => ∃ (pos : Nat), w' = w.iter ⟨#[49]⟩ pos ∧ pos ≤ 1) (fun _ w' => 1 - w'.iterPos w.heap.size)
  case atStart => exact ⟨0, rfl, by omega⟩
  case round =>
    obtain ⟨pos, rfl, hp⟩ := hrel
    match pos, hp with
    | 0, _ =>
      have hnx : ∀ ty, (Instr.next (.pointer (some ⟨w.heap.size, 0, none⟩)) true ty).run Tryz.prog (w.iter ⟨#[49]⟩ 0) = .ok (.tuple #[.bool true, .int .i64 0, .int .i32 49]) (w.iter ⟨#[49]⟩ 1) := fun ty => (run_next_any (P := Tryz.prog) w ⟨#[49]⟩ 0 ty (by decide)).trans (by rfl)
      go_wp2
      go_roundw
      case rel => exact ⟨1, rfl, by omega⟩
      case measure => simp
    | 1, _ =>
      have hnx : ∀ ty, (Instr.next (.pointer (some ⟨w.heap.size, 0, none⟩)) true ty).run Tryz.prog (w.iter ⟨#[49]⟩ 1) = _ := fun ty => run_next_end w ⟨#[49]⟩ 1 ty (by decide)
      go_wp2_with (go_at_call 64; refine (HA _).mono ?_; rintro e w' ⟨rfl, t, rfl⟩)
      go_ret2
      exact ⟨rfl, below_step ((Below.refl _ _).alloc (Nat.le_refl _) _) (Lib.bytesWorld_below _ _ _)⟩
    | n + 2, hp => exact absurd hp (by omega)
set_option maxRecDepth 100000 in
theorem number_0 (w : World) : Calls Tryz.prog 40 #[.string ⟨#[48]⟩] w fun e w' => e = .returned (.tuple #[.int .i64 0, .bool true]) ∧ Below w.heap.size w w' := by
  have HT := Tryz.strings_TrimPrefix ⟨#[48]⟩ ⟨#[45]⟩ w
  rw [show (⟨(Lib.trimPrefix (⟨#[48]⟩ : ByteArray).data.toList (⟨#[45]⟩ : ByteArray).data.toList).toArray⟩ : ByteArray) = ⟨#[48]⟩ from by kernel_rfl] at HT
  have HA := fun W => Tryz.strconv_Atoi ⟨#[48]⟩ 0 (by decide) (by kernel_rfl) W
  go_enter Tryz.func40, Tryz.ntmps40
  go_wp2_with (go_at_call 63; refine HT.mono ?_; rintro e w' ⟨rfl, hw'⟩; subst w')
  go_loopw [6] (fun _ w' => ∃ (pos : Nat), w' = w.iter ⟨#[48]⟩ pos ∧ pos ≤ 1) (fun _ w' => 1 - w'.iterPos w.heap.size)
  case atStart => exact ⟨0, rfl, by omega⟩
  case round =>
    obtain ⟨pos, rfl, hp⟩ := hrel
    match pos, hp with
    | 0, _ =>
      have hnx : ∀ ty, (Instr.next (.pointer (some ⟨w.heap.size, 0, none⟩)) true ty).run Tryz.prog (w.iter ⟨#[48]⟩ 0) = .ok (.tuple #[.bool true, .int .i64 0, .int .i32 48]) (w.iter ⟨#[48]⟩ 1) := fun ty => (run_next_any (P := Tryz.prog) w ⟨#[48]⟩ 0 ty (by decide)).trans (by rfl)
      go_wp2
      go_roundw
      case rel => exact ⟨1, rfl, by omega⟩
      case measure => simp
    | 1, _ =>
      have hnx : ∀ ty, (Instr.next (.pointer (some ⟨w.heap.size, 0, none⟩)) true ty).run Tryz.prog (w.iter ⟨#[48]⟩ 1) = _ := fun ty => run_next_end w ⟨#[48]⟩ 1 ty (by decide)
      go_wp2_with (go_at_call 64; refine (HA _).mono ?_; rintro e w' ⟨rfl, t, rfl⟩)
      go_ret2
      exact ⟨rfl, below_step ((Below.refl _ _).alloc (Nat.le_refl _) _) (Lib.bytesWorld_below _ _ _)⟩
    | n + 2, hp => exact absurd hp (by omega)
set_option maxRecDepth 100000 in
theorem number_x (w : World) : Calls Tryz.prog 40 #[.string ⟨#[120]⟩] w fun e w' => e = .returned (.tuple #[.int .i64 0, .bool false]) ∧ Below w.heap.size w w' := by
  have HT := Tryz.strings_TrimPrefix ⟨#[120]⟩ ⟨#[45]⟩ w
  rw [show (⟨(Lib.trimPrefix (⟨#[120]⟩ : ByteArray).data.toList (⟨#[45]⟩ : ByteArray).data.toList).toArray⟩ : ByteArray) = ⟨#[120]⟩ from by kernel_rfl] at HT
  go_enter Tryz.func40, Tryz.ntmps40
  go_wp2_with (go_at_call 63; refine HT.mono ?_; rintro e w' ⟨rfl, hw'⟩; subst w')
  go_loopw [6] (fun _ w' => w' = w.iter ⟨#[120]⟩ 0) (fun _ w' => 0)
  case atStart => exact rfl
  case round =>
    subst hrel
    have hnx : ∀ ty, (Instr.next (.pointer (some ⟨w.heap.size, 0, none⟩)) true ty).run Tryz.prog (w.iter ⟨#[120]⟩ 0) = .ok (.tuple #[.bool true, .int .i64 0, .int .i32 120]) (w.iter ⟨#[120]⟩ 1) := fun ty => (run_next_any (P := Tryz.prog) w ⟨#[120]⟩ 0 ty (by decide)).trans (by rfl)
    go_wp2
    go_ret2
    exact ⟨rfl, (Below.refl _ _).alloc (Nat.le_refl _) _⟩
end Go.Proofs.YtoamchhmehpgoaaGreatDoor.PSJ
