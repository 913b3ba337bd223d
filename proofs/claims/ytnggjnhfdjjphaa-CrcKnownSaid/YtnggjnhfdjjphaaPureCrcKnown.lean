/- The law CrcKnown, of what the walk has printed: over numbers and lists alone. -/
import Derived.Test.YtnggjnhfdjjphaaPTwox4
import Derived.Test.YtnggjnhfdjjphaaCrcLib
namespace Go.Proofs.Ytnggjnhfdjjphaa.Pure
open Go.RowKit Go.Proofs.Ytnggjnhfdjjphaa.PTwo Go.Proofs.YtnggjnhfdjjphaaW.PrintWords Go.Proofs.YtnggjnhfdjjphaaW.PrintLast Go.Proofs.YtnggjnhfdjjphaaW.PrintMore
theorem known_step (ys : List ByteArray) (zs : List Int) (q : Nat) (l : List UInt8) (n : Nat) (h1 : q < ys.length) (h2 : q < zs.length) (hr : rdOf ByteArray.empty ys (q : Int) = S l) (hb : isBits l) (hs : sumF l 65535 = n) (hz : rd zs (q : Int) = n) :
    (if (q : Int) < (ys.length : Int) then ((crc_Sum.f (rdOf ByteArray.empty ys (q : Int))).bind fun t118 => (if (q : Int) < (zs.length : Int) then (some (t118 == (rd zs (q : Int)))) else (none))) else none) = some true := by
  rw [if_pos (Int.ofNat_lt.2 h1), hr, crc_Sum_eq l hb, Option.bind_some, if_pos (Int.ofNat_lt.2 h2), hz, hs, beq_self_eq_true]
theorem CrcKnown : plaitinglaw2_CrcKnown.Pure := by
  intro a0 _
  refine ⟨3000, ?_⟩
  obtain ⟨k, hk⟩ : ∃ k : Nat, k = 3000 := ⟨_, rfl⟩
  rw [← hk]
  unfold plaitinglaw2_CrcKnown.f
  obtain ⟨i, hi, hi5⟩ := within2_nat a0 5 (by decide) (by decide)
  have hi' : plaitinglaw2_within.f a0 5 = some (i : Int) := hi
  rw [known2 k (by omega), Option.bind_some, if_pos rfl, Option.bind_some, Option.bind_some, hi', Option.bind_some, if_pos (Int.natCast_nonneg i)]
  clear hi hi'
  have hbits : ∀ l : List UInt8, l.all (fun c => c.toNat == 48 || c.toNat == 49) = true → isBits l := by
    intro l h c hc
    have := List.all_eq_true.1 h c hc
    simpa using this
  match i, hi5 with
  | 0, _ => exact known_step _ _ 0 [] 65535 (by decide) (by decide) rfl (hbits _ (by decide)) (by decide +kernel) rfl
  | 1, _ => exact known_step _ _ 1 [48] 61407 (by decide) (by decide) rfl (hbits _ (by decide)) (by decide +kernel) rfl
  | 2, _ => exact known_step _ _ 2 [49] 65534 (by decide) (by decide) rfl (hbits _ (by decide)) (by decide +kernel) rfl
  | 3, _ => exact known_step _ _ 3 [49, 49, 49, 49, 49, 49, 49, 49, 49, 49, 49, 49, 49, 49, 49, 49, 49] 4129 (by decide) (by decide) rfl (hbits _ (by decide)) (by decide +kernel) rfl
  | 4, _ => exact known_step _ _ 4 [48, 48, 49, 49, 48, 48, 48, 49, 48, 48, 49, 49, 48, 48, 49, 48, 48, 48, 49, 49, 48, 48, 49, 49, 48, 48, 49, 49, 48, 49, 48, 48, 48, 48, 49, 49, 48, 49, 48, 49, 48, 48, 49, 49, 48, 49, 49, 48, 48, 48, 49, 49, 48, 49, 49, 49, 48, 48, 49, 49, 49, 48, 48, 48, 48, 48, 49, 49, 49, 48, 48, 49] 10673 (by decide) (by decide) rfl (hbits _ (by decide)) (by decide +kernel) rfl
end Go.Proofs.Ytnggjnhfdjjphaa.Pure
