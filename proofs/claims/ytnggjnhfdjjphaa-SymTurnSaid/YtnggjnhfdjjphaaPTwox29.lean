-- Written by the session's own program (wip/gen).
import Derived.Test.YtnggjnhfdjjphaaPTwox0
import Derived.Test.YtnggjnhfdjjphaaPTwox11
import Derived.Test.YtnggjnhfdjjphaaPTwox12
import Derived.Test.YtnggjnhfdjjphaaPTwox20
import Derived.Test.YtnggjnhfdjjphaaPTwox28
namespace Go.Proofs.Ytnggjnhfdjjphaa.PTwo
open Go.RowKit Go.Proofs.YtnggjnhfdjjphaaW.PrintWords Go.Proofs.YtnggjnhfdjjphaaW.PrintLast Go.Proofs.YtnggjnhfdjjphaaW.PrintMore
attribute [local go_sem] max2_int min2_int max_two min_two max_three min_three max_four min_four   -- for this text's walks alone
set_option linter.unusedVariables false
set_option linter.unusedSimpArgs false

/-! ### plaitinglaw1_SymTurn: function 13 -/
def plaitinglaw1_SymTurn.j0 : Nat → ByteArray → Int → ByteArray → Bool → Option (Bool)
  | 0, _, _, _, _ => none
  | k + 1, x5, x6, x7, x49 => if x49 = true then (some false) else (if 0 ≤ x6 then (if x6 < (x5.size : Int) then (if (bt x5 x6) = 48 then (if x6 < (x7.size : Int) then (if (bt x7 x6) = 49 then ((sym_Turn.f x7 x6).bind fun t279 => (some (t279.toList == x5.toList))) else (some false)) else (none)) else (if (bt x5 x6) = 49 then (if x6 < (x7.size : Int) then (if (bt x7 x6) = 48 then ((sym_Turn.f x7 x6).bind fun t280 => (some (t280.toList == x5.toList))) else (some false)) else (none)) else (if (bt x5 x6) = 35 then (if x6 < (x7.size : Int) then (some ((bt x7 x6) == 48)) else (none)) else (some (x7.toList == x5.toList))))) else (none)) else (none))
def plaitinglaw1_SymTurn.f (k : Nat) (l0 : List Int) (a1 : Int) : Option (Bool) := (plaitinglaw1_known.f k).bind fun t274 => (if t274 = true then ((plaitinglaw1_Text.f k l0).bind fun t275 => (if t275.toList = ([] : List UInt8) then ((sym_Turn.f t275 a1).bind fun t276 => (some (t276.toList == ([] : List UInt8)))) else ((plaitinglaw1_within.f a1 (t275.size : Int)).bind fun t277 => ((sym_Turn.f t275 t277).bind fun t278 => (if (t278.size : Int) = (t275.size : Int) then (if 0 ≤ t277 then (if t277 ≤ (t278.size : Int) then (if t277 ≤ (t275.size : Int) then (if (t278.extract 0 (t277 : Int).toNat).toList = (t275.extract 0 (t277 : Int).toNat).toList then (if 0 ≤ (wrap64 (t277 + 1)) then (if (wrap64 (t277 + 1)) ≤ (t278.size : Int) then (if (wrap64 (t277 + 1)) ≤ (t275.size : Int) then (plaitinglaw1_SymTurn.j0 k t275 t277 t278 ((t278.extract ((wrap64 (t277 + 1)) : Int).toNat t278.size).toList != (t275.extract ((wrap64 (t277 + 1)) : Int).toNat t275.size).toList)) else (none)) else (none)) else (none)) else (plaitinglaw1_SymTurn.j0 k t275 t277 t278 true)) else (none)) else (none)) else (none)) else (plaitinglaw1_SymTurn.j0 k t275 t277 t278 true)))))) else (some false))
theorem plaitinglaw1_SymTurn.mono_l : ∀ k, (∀ y0 y1 y2 y3, LeO (plaitinglaw1_SymTurn.j0 k y0 y1 y2 y3) (plaitinglaw1_SymTurn.j0 (k + 1) y0 y1 y2 y3))
  | 0 => fun _ _ _ _ r h => by simp [plaitinglaw1_SymTurn.j0] at h
  | k + 1 => by
    have ih0 := plaitinglaw1_SymTurn.mono_l k
    · intro y0 y1 y2 y3
      unfold plaitinglaw1_SymTurn.j0
      repeat' first
      | (with_reducible exact ih0 _ _ _ _)
      | (with_reducible exact plaitinglaw1_Text.mono _ _)
      | (with_reducible exact plaitinglaw1_known.mono _)
      | (with_reducible exact LeO.refl _)
      | (with_reducible exact LeO.none _)
      | (with_reducible refine LeO.ite ?_ ?_)
      | (with_reducible refine LeO.bind ?_ (fun _ => ?_))
      | exact ih0 _ _ _ _
      | exact plaitinglaw1_Text.mono _ _
      | exact plaitinglaw1_known.mono _
      | exact LeO.none _
      | refine LeO.ite ?_ ?_
      | refine LeO.bind ?_ (fun _ => ?_)
theorem plaitinglaw1_SymTurn.mono : ∀ a0 a1 k, LeO (plaitinglaw1_SymTurn.f k a0 a1) (plaitinglaw1_SymTurn.f (k + 1) a0 a1) := by
  intro a0 a1 k
  have ih0 := plaitinglaw1_SymTurn.mono_l k
  unfold plaitinglaw1_SymTurn.f
  repeat' first
      | (with_reducible exact ih0 _ _ _ _)
      | (with_reducible exact plaitinglaw1_Text.mono _ _)
      | (with_reducible exact plaitinglaw1_known.mono _)
      | (with_reducible exact LeO.refl _)
      | (with_reducible exact LeO.none _)
      | (with_reducible refine LeO.ite ?_ ?_)
      | (with_reducible refine LeO.bind ?_ (fun _ => ?_))
      | exact ih0 _ _ _ _
      | exact plaitinglaw1_Text.mono _ _
      | exact plaitinglaw1_known.mono _
      | exact LeO.none _
      | refine LeO.ite ?_ ?_
      | refine LeO.bind ?_ (fun _ => ?_)
set_option maxHeartbeats 8000000 in
set_option maxRecDepth 100000 in
theorem plaitinglaw1_SymTurn.calls (k : Nat) (A0 : Option Addr) (c0 : Nat) (l0 : List Int) (a1 : Int) (r : Bool) (w : World) (hr0 : Kd.C (Kd.int .i64) w A0 l0.length l0) (hc0 : l0.length ≤ c0) (h : plaitinglaw1_SymTurn.f k l0 a1 = some r) :
    Calls Try.prog 13 #[.slice A0 l0.length c0, .int .i64 a1] w fun e w' => e = .returned (.bool r) ∧ Below w.heap.size w w' := by
  have HR0 := Aside0.mk hr0
  have HC0 := Aside0.mk hc0
  clear hr0 hc0
  have HB := Aside0.mk (Below.refl w.heap.size w)
  have H : ((plaitinglaw1_known.f k).bind fun t274 => (if t274 = true then ((plaitinglaw1_Text.f k l0).bind fun t275 => (if t275.toList = ([] : List UInt8) then ((sym_Turn.f t275 a1).bind fun t276 => (some (t276.toList == ([] : List UInt8)))) else ((plaitinglaw1_within.f a1 (t275.size : Int)).bind fun t277 => ((sym_Turn.f t275 t277).bind fun t278 => (if (t278.size : Int) = (t275.size : Int) then (if 0 ≤ t277 then (if t277 ≤ (t278.size : Int) then (if t277 ≤ (t275.size : Int) then (if (t278.extract 0 (t277 : Int).toNat).toList = (t275.extract 0 (t277 : Int).toNat).toList then (if 0 ≤ (wrap64 (t277 + 1)) then (if (wrap64 (t277 + 1)) ≤ (t278.size : Int) then (if (wrap64 (t277 + 1)) ≤ (t275.size : Int) then (plaitinglaw1_SymTurn.j0 k t275 t277 t278 ((t278.extract ((wrap64 (t277 + 1)) : Int).toNat t278.size).toList != (t275.extract ((wrap64 (t277 + 1)) : Int).toNat t275.size).toList)) else (none)) else (none)) else (none)) else (plaitinglaw1_SymTurn.j0 k t275 t277 t278 true)) else (none)) else (none)) else (none)) else (plaitinglaw1_SymTurn.j0 k t275 t277 t278 true)))))) else (some false))) = some r := h
  clear h
  replace H := Option.bind_eq_some_iff.mp H
  obtain ⟨t274, A30, H⟩ := H
  replace H : (if t274 = true then ((plaitinglaw1_Text.f k l0).bind fun t275 => (if t275.toList = ([] : List UInt8) then ((sym_Turn.f t275 a1).bind fun t276 => (some (t276.toList == ([] : List UInt8)))) else ((plaitinglaw1_within.f a1 (t275.size : Int)).bind fun t277 => ((sym_Turn.f t275 t277).bind fun t278 => (if (t278.size : Int) = (t275.size : Int) then (if 0 ≤ t277 then (if t277 ≤ (t278.size : Int) then (if t277 ≤ (t275.size : Int) then (if (t278.extract 0 (t277 : Int).toNat).toList = (t275.extract 0 (t277 : Int).toNat).toList then (if 0 ≤ (wrap64 (t277 + 1)) then (if (wrap64 (t277 + 1)) ≤ (t278.size : Int) then (if (wrap64 (t277 + 1)) ≤ (t275.size : Int) then (plaitinglaw1_SymTurn.j0 k t275 t277 t278 ((t278.extract ((wrap64 (t277 + 1)) : Int).toNat t278.size).toList != (t275.extract ((wrap64 (t277 + 1)) : Int).toNat t275.size).toList)) else (none)) else (none)) else (none)) else (plaitinglaw1_SymTurn.j0 k t275 t277 t278 true)) else (none)) else (none)) else (none)) else (plaitinglaw1_SymTurn.j0 k t275 t277 t278 true)))))) else (some false)) = some r := H
  have A3 := Aside0.mk A30
  clear A30
  by_cases c4 : t274 = true
  · subst c4
    have H1 : ((plaitinglaw1_Text.f k l0).bind fun t275 => (if t275.toList = ([] : List UInt8) then ((sym_Turn.f t275 a1).bind fun t276 => (some (t276.toList == ([] : List UInt8)))) else ((plaitinglaw1_within.f a1 (t275.size : Int)).bind fun t277 => ((sym_Turn.f t275 t277).bind fun t278 => (if (t278.size : Int) = (t275.size : Int) then (if 0 ≤ t277 then (if t277 ≤ (t278.size : Int) then (if t277 ≤ (t275.size : Int) then (if (t278.extract 0 (t277 : Int).toNat).toList = (t275.extract 0 (t277 : Int).toNat).toList then (if 0 ≤ (wrap64 (t277 + 1)) then (if (wrap64 (t277 + 1)) ≤ (t278.size : Int) then (if (wrap64 (t277 + 1)) ≤ (t275.size : Int) then (plaitinglaw1_SymTurn.j0 k t275 t277 t278 ((t278.extract ((wrap64 (t277 + 1)) : Int).toNat t278.size).toList != (t275.extract ((wrap64 (t277 + 1)) : Int).toNat t275.size).toList)) else (none)) else (none)) else (none)) else (plaitinglaw1_SymTurn.j0 k t275 t277 t278 true)) else (none)) else (none)) else (none)) else (plaitinglaw1_SymTurn.j0 k t275 t277 t278 true)))))) = some r := by rw [if_pos rfl] at H; exact H
    clear H
    have H := H1
    clear H1
    replace H := Option.bind_eq_some_iff.mp H
    obtain ⟨t275, A50, H⟩ := H
    replace H : (if t275.toList = ([] : List UInt8) then ((sym_Turn.f t275 a1).bind fun t276 => (some (t276.toList == ([] : List UInt8)))) else ((plaitinglaw1_within.f a1 (t275.size : Int)).bind fun t277 => ((sym_Turn.f t275 t277).bind fun t278 => (if (t278.size : Int) = (t275.size : Int) then (if 0 ≤ t277 then (if t277 ≤ (t278.size : Int) then (if t277 ≤ (t275.size : Int) then (if (t278.extract 0 (t277 : Int).toNat).toList = (t275.extract 0 (t277 : Int).toNat).toList then (if 0 ≤ (wrap64 (t277 + 1)) then (if (wrap64 (t277 + 1)) ≤ (t278.size : Int) then (if (wrap64 (t277 + 1)) ≤ (t275.size : Int) then (plaitinglaw1_SymTurn.j0 k t275 t277 t278 ((t278.extract ((wrap64 (t277 + 1)) : Int).toNat t278.size).toList != (t275.extract ((wrap64 (t277 + 1)) : Int).toNat t275.size).toList)) else (none)) else (none)) else (none)) else (plaitinglaw1_SymTurn.j0 k t275 t277 t278 true)) else (none)) else (none)) else (none)) else (plaitinglaw1_SymTurn.j0 k t275 t277 t278 true))))) = some r := H
    have A5 := Aside0.mk A50
    clear A50
    by_cases c6 : t275.toList = ([] : List UInt8)
    · rw [if_pos c6] at H
      have c6b0 : (t275.toList == ([] : List UInt8)) = true := beq_iff_eq.mpr c6
      have c6b1 : (t275.toList != ([] : List UInt8)) = false := bne_eq_false_iff_eq.mpr c6
      clear c6
      replace H := Option.bind_eq_some_iff.mp H
      obtain ⟨t276, A70, H⟩ := H
      replace H : (some (t276.toList == ([] : List UInt8))) = some r := H
      have A7 := Aside0.mk A70
      clear A70
      obtain rfl := Option.some.inj H
      go_enter Try.func13, Try.ntmps13
      go_wp2_with (first | (go_at_call 37; (with_reducible refine (plaitinglaw1_known.calls k  true _ A3.out).mono ?_); rintro e w8 ⟨rfl, hb⟩; have n0_ := Aside0.mk (below_step (by repeat (first | (with_reducible first | exact HB.out | apply below_alloc | apply pw_below_drewN | apply below_drew1) | exact HB.out)) hb); clear HB; have HB := n0_; clear n0_; (try clear hb); (try clear hb2); (try clear hk); (try clear hi)) | (go_at_call 39; (with_reducible refine (plaitinglaw1_Text.calls k _ _ l0 t275 _ ?side1 ?side2 A5.out).mono ?_); (case side1 => repeat (first | exact (Kd.C_below HR0.out HB.out) | (with_reducible refine Kd.C_alloc ?_ _) | (with_reducible refine Kd.C_drewN ?_ _) | (with_reducible refine Kd.C_drew ?_))); (case side2 => exact HC0.out); rintro e w9 ⟨rfl, hb⟩; have n0_ := Aside0.mk (below_step (by repeat (first | (with_reducible first | exact HB.out | apply below_alloc | apply pw_below_drewN | apply below_drew1) | exact HB.out)) hb); clear HB; have HB := n0_; clear n0_; (try clear hb); (try clear hb2); (try clear hk); (try clear hi)) | (go_at_call 48; (with_reducible refine (sym_Turn.calls t275 a1 t276 _ A7.out).mono ?_); rintro e w10 ⟨rfl, hb⟩; have n0_ := Aside0.mk (below_step (by repeat (first | (with_reducible first | exact HB.out | apply below_alloc | apply pw_below_drewN | apply below_drew1) | exact HB.out)) hb); clear HB; have HB := n0_; clear n0_; (try clear hb); (try clear hb2); (try clear hk); (try clear hi)))
      repeat (go_quiet (first | (go_at_call 37; (with_reducible refine (plaitinglaw1_known.calls k  true _ A3.out).mono ?_); rintro e w8 ⟨rfl, hb⟩; have n0_ := Aside0.mk (below_step (by repeat (first | (with_reducible first | exact HB.out | apply below_alloc | apply pw_below_drewN | apply below_drew1) | exact HB.out)) hb); clear HB; have HB := n0_; clear n0_; (try clear hb); (try clear hb2); (try clear hk); (try clear hi)) | (go_at_call 39; (with_reducible refine (plaitinglaw1_Text.calls k _ _ l0 t275 _ ?side1 ?side2 A5.out).mono ?_); (case side1 => repeat (first | exact (Kd.C_below HR0.out HB.out) | (with_reducible refine Kd.C_alloc ?_ _) | (with_reducible refine Kd.C_drewN ?_ _) | (with_reducible refine Kd.C_drew ?_))); (case side2 => exact HC0.out); rintro e w9 ⟨rfl, hb⟩; have n0_ := Aside0.mk (below_step (by repeat (first | (with_reducible first | exact HB.out | apply below_alloc | apply pw_below_drewN | apply below_drew1) | exact HB.out)) hb); clear HB; have HB := n0_; clear n0_; (try clear hb); (try clear hb2); (try clear hk); (try clear hi)) | (go_at_call 48; (with_reducible refine (sym_Turn.calls t275 a1 t276 _ A7.out).mono ?_); rintro e w10 ⟨rfl, hb⟩; have n0_ := Aside0.mk (below_step (by repeat (first | (with_reducible first | exact HB.out | apply below_alloc | apply pw_below_drewN | apply below_drew1) | exact HB.out)) hb); clear HB; have HB := n0_; clear n0_; (try clear hb); (try clear hb2); (try clear hk); (try clear hi))); try go_wp2_with (first | (go_at_call 37; (with_reducible refine (plaitinglaw1_known.calls k  true _ A3.out).mono ?_); rintro e w8 ⟨rfl, hb⟩; have n0_ := Aside0.mk (below_step (by repeat (first | (with_reducible first | exact HB.out | apply below_alloc | apply pw_below_drewN | apply below_drew1) | exact HB.out)) hb); clear HB; have HB := n0_; clear n0_; (try clear hb); (try clear hb2); (try clear hk); (try clear hi)) | (go_at_call 39; (with_reducible refine (plaitinglaw1_Text.calls k _ _ l0 t275 _ ?side1 ?side2 A5.out).mono ?_); (case side1 => repeat (first | exact (Kd.C_below HR0.out HB.out) | (with_reducible refine Kd.C_alloc ?_ _) | (with_reducible refine Kd.C_drewN ?_ _) | (with_reducible refine Kd.C_drew ?_))); (case side2 => exact HC0.out); rintro e w9 ⟨rfl, hb⟩; have n0_ := Aside0.mk (below_step (by repeat (first | (with_reducible first | exact HB.out | apply below_alloc | apply pw_below_drewN | apply below_drew1) | exact HB.out)) hb); clear HB; have HB := n0_; clear n0_; (try clear hb); (try clear hb2); (try clear hk); (try clear hi)) | (go_at_call 48; (with_reducible refine (sym_Turn.calls t275 a1 t276 _ A7.out).mono ?_); rintro e w10 ⟨rfl, hb⟩; have n0_ := Aside0.mk (below_step (by repeat (first | (with_reducible first | exact HB.out | apply below_alloc | apply pw_below_drewN | apply below_drew1) | exact HB.out)) hb); clear HB; have HB := n0_; clear n0_; (try clear hb); (try clear hb2); (try clear hk); (try clear hi))))
      go_ret
      exact ⟨by first | rfl | (simp [errW_none, errW_some] <;> rfl) | (simp [*, errW_none, errW_some] <;> rfl), by repeat (first | (with_reducible first | exact HB.out | apply below_alloc | apply pw_below_drewN | apply below_drew1) | exact HB.out)⟩
    · rw [if_neg c6] at H
      have c6b0 : (t275.toList == ([] : List UInt8)) = false := beq_eq_false_iff_ne.mpr c6
      have c6b1 : (t275.toList != ([] : List UInt8)) = true := bne_iff_ne.mpr c6
      replace H := Option.bind_eq_some_iff.mp H
      obtain ⟨t277, A110, H⟩ := H
      replace H : ((sym_Turn.f t275 t277).bind fun t278 => (if (t278.size : Int) = (t275.size : Int) then (if 0 ≤ t277 then (if t277 ≤ (t278.size : Int) then (if t277 ≤ (t275.size : Int) then (if (t278.extract 0 (t277 : Int).toNat).toList = (t275.extract 0 (t277 : Int).toNat).toList then (if 0 ≤ (wrap64 (t277 + 1)) then (if (wrap64 (t277 + 1)) ≤ (t278.size : Int) then (if (wrap64 (t277 + 1)) ≤ (t275.size : Int) then (plaitinglaw1_SymTurn.j0 k t275 t277 t278 ((t278.extract ((wrap64 (t277 + 1)) : Int).toNat t278.size).toList != (t275.extract ((wrap64 (t277 + 1)) : Int).toNat t275.size).toList)) else (none)) else (none)) else (none)) else (plaitinglaw1_SymTurn.j0 k t275 t277 t278 true)) else (none)) else (none)) else (none)) else (plaitinglaw1_SymTurn.j0 k t275 t277 t278 true))) = some r := H
      have A11 := Aside0.mk A110
      clear A110
      replace H := Option.bind_eq_some_iff.mp H
      obtain ⟨t278, A120, H⟩ := H
      replace H : (if (t278.size : Int) = (t275.size : Int) then (if 0 ≤ t277 then (if t277 ≤ (t278.size : Int) then (if t277 ≤ (t275.size : Int) then (if (t278.extract 0 (t277 : Int).toNat).toList = (t275.extract 0 (t277 : Int).toNat).toList then (if 0 ≤ (wrap64 (t277 + 1)) then (if (wrap64 (t277 + 1)) ≤ (t278.size : Int) then (if (wrap64 (t277 + 1)) ≤ (t275.size : Int) then (plaitinglaw1_SymTurn.j0 k t275 t277 t278 ((t278.extract ((wrap64 (t277 + 1)) : Int).toNat t278.size).toList != (t275.extract ((wrap64 (t277 + 1)) : Int).toNat t275.size).toList)) else (none)) else (none)) else (none)) else (plaitinglaw1_SymTurn.j0 k t275 t277 t278 true)) else (none)) else (none)) else (none)) else (plaitinglaw1_SymTurn.j0 k t275 t277 t278 true)) = some r := H
      have A12 := Aside0.mk A120
      clear A120
      have HC13 := Aside0.mk H
      clear H
      go_enter Try.func13, Try.ntmps13
      go_upto_region 8 with (first | (go_at_call 37; (with_reducible refine (plaitinglaw1_known.calls k  true _ A3.out).mono ?_); rintro e w14 ⟨rfl, hb⟩; have n0_ := Aside0.mk (below_step (by repeat (first | (with_reducible first | exact HB.out | apply below_alloc | apply pw_below_drewN | apply below_drew1) | exact HB.out)) hb); clear HB; have HB := n0_; clear n0_; (try clear hb); (try clear hb2); (try clear hk); (try clear hi)) | (go_at_call 39; (with_reducible refine (plaitinglaw1_Text.calls k _ _ l0 t275 _ ?side1 ?side2 A5.out).mono ?_); (case side1 => repeat (first | exact (Kd.C_below HR0.out HB.out) | (with_reducible refine Kd.C_alloc ?_ _) | (with_reducible refine Kd.C_drewN ?_ _) | (with_reducible refine Kd.C_drew ?_))); (case side2 => exact HC0.out); rintro e w15 ⟨rfl, hb⟩; have n0_ := Aside0.mk (below_step (by repeat (first | (with_reducible first | exact HB.out | apply below_alloc | apply pw_below_drewN | apply below_drew1) | exact HB.out)) hb); clear HB; have HB := n0_; clear n0_; (try clear hb); (try clear hb2); (try clear hk); (try clear hi)) | (go_at_call 44; (with_reducible refine (plaitinglaw1_within.calls a1 (t275.size : Int) t277 _ A11.out).mono ?_); rintro e w' ⟨rfl, ⟨nd, rfl⟩⟩; (try first | exact ⟨rfl, _, World.drewN_drewN _ _ _⟩ | exact ⟨rfl, _, Eq.trans (World.drewN_drewN _ _ _) (congrArg (World.drewN _) (Nat.add_assoc _ _ _))⟩)) | (go_at_call 48; (with_reducible refine (sym_Turn.calls t275 t277 t278 _ A12.out).mono ?_); rintro e w16 ⟨rfl, hb⟩; have n0_ := Aside0.mk (below_step (by repeat (first | (with_reducible first | exact HB.out | apply below_alloc | apply pw_below_drewN | apply below_drew1) | exact HB.out)) hb); clear HB; have HB := n0_; clear n0_; (try clear hb); (try clear hb2); (try clear hk); (try clear hi)))
      repeat (go_quiet (first | (go_at_call 37; (with_reducible refine (plaitinglaw1_known.calls k  true _ A3.out).mono ?_); rintro e w14 ⟨rfl, hb⟩; have n0_ := Aside0.mk (below_step (by repeat (first | (with_reducible first | exact HB.out | apply below_alloc | apply pw_below_drewN | apply below_drew1) | exact HB.out)) hb); clear HB; have HB := n0_; clear n0_; (try clear hb); (try clear hb2); (try clear hk); (try clear hi)) | (go_at_call 39; (with_reducible refine (plaitinglaw1_Text.calls k _ _ l0 t275 _ ?side1 ?side2 A5.out).mono ?_); (case side1 => repeat (first | exact (Kd.C_below HR0.out HB.out) | (with_reducible refine Kd.C_alloc ?_ _) | (with_reducible refine Kd.C_drewN ?_ _) | (with_reducible refine Kd.C_drew ?_))); (case side2 => exact HC0.out); rintro e w15 ⟨rfl, hb⟩; have n0_ := Aside0.mk (below_step (by repeat (first | (with_reducible first | exact HB.out | apply below_alloc | apply pw_below_drewN | apply below_drew1) | exact HB.out)) hb); clear HB; have HB := n0_; clear n0_; (try clear hb); (try clear hb2); (try clear hk); (try clear hi)) | (go_at_call 44; (with_reducible refine (plaitinglaw1_within.calls a1 (t275.size : Int) t277 _ A11.out).mono ?_); rintro e w' ⟨rfl, ⟨nd, rfl⟩⟩; (try first | exact ⟨rfl, _, World.drewN_drewN _ _ _⟩ | exact ⟨rfl, _, Eq.trans (World.drewN_drewN _ _ _) (congrArg (World.drewN _) (Nat.add_assoc _ _ _))⟩)) | (go_at_call 48; (with_reducible refine (sym_Turn.calls t275 t277 t278 _ A12.out).mono ?_); rintro e w16 ⟨rfl, hb⟩; have n0_ := Aside0.mk (below_step (by repeat (first | (with_reducible first | exact HB.out | apply below_alloc | apply pw_below_drewN | apply below_drew1) | exact HB.out)) hb); clear HB; have HB := n0_; clear n0_; (try clear hb); (try clear hb2); (try clear hk); (try clear hi))); go_upto_region 8 with (first | (go_at_call 37; (with_reducible refine (plaitinglaw1_known.calls k  true _ A3.out).mono ?_); rintro e w14 ⟨rfl, hb⟩; have n0_ := Aside0.mk (below_step (by repeat (first | (with_reducible first | exact HB.out | apply below_alloc | apply pw_below_drewN | apply below_drew1) | exact HB.out)) hb); clear HB; have HB := n0_; clear n0_; (try clear hb); (try clear hb2); (try clear hk); (try clear hi)) | (go_at_call 39; (with_reducible refine (plaitinglaw1_Text.calls k _ _ l0 t275 _ ?side1 ?side2 A5.out).mono ?_); (case side1 => repeat (first | exact (Kd.C_below HR0.out HB.out) | (with_reducible refine Kd.C_alloc ?_ _) | (with_reducible refine Kd.C_drewN ?_ _) | (with_reducible refine Kd.C_drew ?_))); (case side2 => exact HC0.out); rintro e w15 ⟨rfl, hb⟩; have n0_ := Aside0.mk (below_step (by repeat (first | (with_reducible first | exact HB.out | apply below_alloc | apply pw_below_drewN | apply below_drew1) | exact HB.out)) hb); clear HB; have HB := n0_; clear n0_; (try clear hb); (try clear hb2); (try clear hk); (try clear hi)) | (go_at_call 44; (with_reducible refine (plaitinglaw1_within.calls a1 (t275.size : Int) t277 _ A11.out).mono ?_); rintro e w' ⟨rfl, ⟨nd, rfl⟩⟩; (try first | exact ⟨rfl, _, World.drewN_drewN _ _ _⟩ | exact ⟨rfl, _, Eq.trans (World.drewN_drewN _ _ _) (congrArg (World.drewN _) (Nat.add_assoc _ _ _))⟩)) | (go_at_call 48; (with_reducible refine (sym_Turn.calls t275 t277 t278 _ A12.out).mono ?_); rintro e w16 ⟨rfl, hb⟩; have n0_ := Aside0.mk (below_step (by repeat (first | (with_reducible first | exact HB.out | apply below_alloc | apply pw_below_drewN | apply below_drew1) | exact HB.out)) hb); clear HB; have HB := n0_; clear n0_; (try clear hb); (try clear hb2); (try clear hk); (try clear hi))))
      (try simp only [Act.put, List.setIfInBounds_toArray, List.set_cons_zero, List.set_cons_succ])
      go_cut [49] (fun v49 wc => ∃ (kq : Nat) (x49_12 : Bool), v49 = .bool x49_12 ∧ Aside0 (plaitinglaw1_SymTurn.j0 kq t275 t277 t278 x49_12 = some r) ∧ Aside0 (kq ≤ k) ∧ Aside0 (Below w.heap.size w wc))
      case first =>
        have H := HC13.out
        clear HC13
        by_cases c17 : (t278.size : Int) = (t275.size : Int)
        · rw [if_pos c17] at H
          have c17b0 : ((t278.size : Int) == (t275.size : Int)) = true := beq_iff_eq.mpr c17
          have c17b1 : ((t278.size : Int) != (t275.size : Int)) = false := bne_eq_false_iff_eq.mpr c17
          have c17b2 : (t278.size == t275.size) = true := by first | simpa using c17 | (simp at c17 ⊢; omega)
          clear c17
          (first | rw [c17b0] | (simp only [i64_w, i32_w]; rw [c17b0]) | skip)
          by_cases c18 : 0 ≤ t277
          · rw [if_pos c18] at H
            have c18b0 := eq_true c18
            have c18b1 : decide (0 ≤ t277) = true := decide_eq_true c18
            clear c18
            by_cases c19 : t277 ≤ (t278.size : Int)
            · rw [if_pos c19] at H
              have c19b0 := eq_true c19
              have c19b1 : decide (t277 ≤ (t278.size : Int)) = true := decide_eq_true c19
              clear c19
              have c20b0 := eq_true (of_decide_eq_true (by first | (with_reducible assumption) | assumption) : 0 ≤ t277)
              by_cases c21 : t277 ≤ (t275.size : Int)
              · rw [if_pos c21] at H
                have c21b0 := eq_true c21
                have c21b1 : decide (t277 ≤ (t275.size : Int)) = true := decide_eq_true c21
                clear c21
                by_cases c22 : (t278.extract 0 (t277 : Int).toNat).toList = (t275.extract 0 (t277 : Int).toNat).toList
                · rw [if_pos c22] at H
                  have c22b0 : ((t278.extract 0 (t277 : Int).toNat).toList == (t275.extract 0 (t277 : Int).toNat).toList) = true := beq_iff_eq.mpr c22
                  have c22b1 : ((t278.extract 0 (t277 : Int).toNat).toList != (t275.extract 0 (t277 : Int).toNat).toList) = false := bne_eq_false_iff_eq.mpr c22
                  (try (have c22b0n := c22b0; simp only [ByteArray.size_append, Int.natCast_add] at c22b0n))
                  (try (have c22b1n := c22b1; simp only [ByteArray.size_append, Int.natCast_add] at c22b1n))
                  clear c22
                  obtain ⟨ji23, hji23⟩ : ∃ j_ : Int, (wrap64 (t277 + 1)) = j_ := ⟨_, rfl⟩
                  replace H : (if 0 ≤ (ji23) then (if (ji23) ≤ (t278.size : Int) then (if (ji23) ≤ (t275.size : Int) then (plaitinglaw1_SymTurn.j0 k t275 t277 t278 ((t278.extract ((ji23) : Int).toNat t278.size).toList != (t275.extract ((ji23) : Int).toNat t275.size).toList)) else (none)) else (none)) else (none)) = some r := by first | (rw [hji23] at H; exact H) | (simp only [hji23] at H ⊢; exact H)
                  have hji23w : (IntKind.i64.wrap (t277 + 1)) = ji23 := (i64_w _).trans hji23
                  by_cases c24 : 0 ≤ (ji23)
                  · rw [if_pos c24] at H
                    have c24b0 := eq_true c24
                    have c24b1 : decide (0 ≤ (ji23)) = true := decide_eq_true c24
                    clear c24
                    by_cases c25 : (ji23) ≤ (t278.size : Int)
                    · rw [if_pos c25] at H
                      have c25b0 := eq_true c25
                      have c25b1 : decide ((ji23) ≤ (t278.size : Int)) = true := decide_eq_true c25
                      clear c25
                      have c26b0 := eq_true (of_decide_eq_true (by first | (with_reducible assumption) | assumption) : 0 ≤ (ji23))
                      by_cases c27 : (ji23) ≤ (t275.size : Int)
                      · rw [if_pos c27] at H
                        have c27b0 := eq_true c27
                        have c27b1 : decide ((ji23) ≤ (t275.size : Int)) = true := decide_eq_true c27
                        clear c27
                        have H' := Aside0.mk H
                        clear H
                        go_wp2
                        repeat (go_quiet (fail); try go_wp2)
                        go_meet
                        case rel => exact ⟨_, (((t278.extract ((ji23) : Int).toNat t278.size).toList != (t275.extract ((ji23) : Int).toNat t275.size).toList)), (by first | rfl | (simp; done) | (simp only [← hji23] <;> (first | rfl | simp)) | (simp [*]; done)), H', ⟨by first | omega | exact Nat.le_refl _⟩, ⟨by repeat (first | (with_reducible first | exact HB.out | apply below_alloc | apply pw_below_drewN | apply below_drew1) | exact HB.out)⟩⟩
                      · rw [if_neg c27] at H
                        exact absurd H (by simp)
                    · rw [if_neg c25] at H
                      exact absurd H (by simp)
                  · rw [if_neg c24] at H
                    exact absurd H (by simp)
                · rw [if_neg c22] at H
                  have c22b0 : ((t278.extract 0 (t277 : Int).toNat).toList == (t275.extract 0 (t277 : Int).toNat).toList) = false := beq_eq_false_iff_ne.mpr c22
                  have c22b1 : ((t278.extract 0 (t277 : Int).toNat).toList != (t275.extract 0 (t277 : Int).toNat).toList) = true := bne_iff_ne.mpr c22
                  (try (have c22b0n := c22b0; simp only [ByteArray.size_append, Int.natCast_add] at c22b0n))
                  (try (have c22b1n := c22b1; simp only [ByteArray.size_append, Int.natCast_add] at c22b1n))
                  have H' := Aside0.mk H
                  clear H
                  go_wp2
                  repeat (go_quiet (fail); try go_wp2)
                  go_meet
                  case rel => exact ⟨_, (true), (by first | rfl | (simp; done) | (simp [*]; done)), H', ⟨by first | omega | exact Nat.le_refl _⟩, ⟨by repeat (first | (with_reducible first | exact HB.out | apply below_alloc | apply pw_below_drewN | apply below_drew1) | exact HB.out)⟩⟩
              · rw [if_neg c21] at H
                exact absurd H (by simp)
            · rw [if_neg c19] at H
              exact absurd H (by simp)
          · rw [if_neg c18] at H
            exact absurd H (by simp)
        · rw [if_neg c17] at H
          have c17b0 : ((t278.size : Int) == (t275.size : Int)) = false := beq_eq_false_iff_ne.mpr c17
          have c17b1 : ((t278.size : Int) != (t275.size : Int)) = true := bne_iff_ne.mpr c17
          have c17b2 : (t278.size == t275.size) = false := by first | simpa using c17 | (simp at c17 ⊢; omega)
          (first | rw [c17b0] | (simp only [i64_w, i32_w]; rw [c17b0]) | skip)
          have H' := Aside0.mk H
          clear H
          go_wp2
          repeat (go_quiet (fail); try go_wp2)
          go_meet
          case rel => exact ⟨_, (true), (by first | rfl | (simp; done) | (simp [*]; done)), H', ⟨by first | omega | exact Nat.le_refl _⟩, ⟨by repeat (first | (with_reducible first | exact HB.out | apply below_alloc | apply pw_below_drewN | apply below_drew1) | exact HB.out)⟩⟩
      case rest =>
        clear HC13
        try clear c1
        try clear c2
        try clear p2
        try clear c4
        try clear c6
        try clear c6b0
        try clear c6b1
        try clear p6
        try clear c13
        try clear c17
        try clear c17b0
        try clear c17b1
        try clear c17b2
        try clear c18
        try clear c18b0
        try clear c18b1
        try clear c19
        try clear c19b0
        try clear c19b1
        try clear c20
        try clear c20b0
        try clear c21
        try clear c21b0
        try clear c21b1
        try clear c22
        try clear c22b0
        try clear c22b1
        try clear c24
        try clear c24b0
        try clear c24b1
        try clear c25
        try clear c25b0
        try clear c25b1
        try clear c26
        try clear c26b0
        try clear c27
        try clear c27b0
        try clear c27b1
        obtain ⟨kq, x49_12, rfl, HA, HJ12, HB⟩ := hcut
        cases kq with
        | zero => exact absurd HA.out (by simp [plaitinglaw1_SymTurn.j0])
        | succ kj12 =>
          have H := HA.out
          clear HA
          simp only [plaitinglaw1_SymTurn.j0] at H
          by_cases c28 : x49_12 = true
          · subst c28
            have H1 : (some false) = some r := by rw [if_pos rfl] at H; exact H
            clear H
            have H := H1
            clear H1
            obtain rfl := Option.some.inj H
            go_wp2
            repeat (go_quiet (fail); try go_wp2)
            go_ret
            exact ⟨by first | rfl | (simp [errW_none, errW_some] <;> rfl) | (simp [*, errW_none, errW_some] <;> rfl), by repeat (first | (with_reducible first | exact HB.out | apply below_alloc | apply pw_below_drewN | apply below_drew1) | exact HB.out)⟩
          · replace c28 := Bool.eq_false_iff.mpr c28
            subst c28
            have H1 : (if 0 ≤ t277 then (if t277 < (t275.size : Int) then (if (bt t275 t277) = 48 then (if t277 < (t278.size : Int) then (if (bt t278 t277) = 49 then ((sym_Turn.f t278 t277).bind fun t279 => (some (t279.toList == t275.toList))) else (some false)) else (none)) else (if (bt t275 t277) = 49 then (if t277 < (t278.size : Int) then (if (bt t278 t277) = 48 then ((sym_Turn.f t278 t277).bind fun t280 => (some (t280.toList == t275.toList))) else (some false)) else (none)) else (if (bt t275 t277) = 35 then (if t277 < (t278.size : Int) then (some ((bt t278 t277) == 48)) else (none)) else (some (t278.toList == t275.toList))))) else (none)) else (none)) = some r := by rw [if_neg (show ¬ (false = true) by decide)] at H; exact H
            clear H
            have H := H1
            clear H1
            by_cases c29 : 0 ≤ t277
            · rw [if_pos c29] at H
              have c29b0 : decide (0 ≤ t277) = true := decide_eq_true c29
              clear c29
              by_cases c30 : t277 < (t275.size : Int)
              · rw [if_pos c30] at H
                have c30b0 : decide (t277 < (t275.size : Int)) = true := decide_eq_true c30
                clear c30
                by_cases c32 : (bt t275 t277) = 48
                · rw [if_pos c32] at H
                  have c32b0 : ((bt t275 t277) == 48) = true := beq_iff_eq.mpr c32
                  have c32b1 : ((bt t275 t277) != 48) = false := bne_eq_false_iff_eq.mpr c32
                  clear c32
                  by_cases c33 : t277 < (t278.size : Int)
                  · rw [if_pos c33] at H
                    have c33b0 : decide (t277 < (t278.size : Int)) = true := decide_eq_true c33
                    clear c33
                    by_cases c35 : (bt t278 t277) = 49
                    · rw [if_pos c35] at H
                      have c35b0 : ((bt t278 t277) == 49) = true := beq_iff_eq.mpr c35
                      have c35b1 : ((bt t278 t277) != 49) = false := bne_eq_false_iff_eq.mpr c35
                      clear c35
                      replace H := Option.bind_eq_some_iff.mp H
                      obtain ⟨t279, A360, H⟩ := H
                      replace H : (some (t279.toList == t275.toList)) = some r := H
                      have A36 := Aside0.mk A360
                      clear A360
                      obtain rfl := Option.some.inj H
                      have p31 : 0 ≤ (t277 : Int) := of_decide_eq_true (by first | (with_reducible assumption) | assumption)
                      have q31 : t277 < (t275.size : Int) := of_decide_eq_true (by first | (with_reducible assumption) | assumption)
                      have hx31 := bt_at t275 t277
                      replace p31 := eq_true p31
                      replace q31 := eq_true q31
                      have p34 : 0 ≤ (t277 : Int) := of_decide_eq_true (by first | (with_reducible assumption) | assumption)
                      have q34 : t277 < (t278.size : Int) := of_decide_eq_true (by first | (with_reducible assumption) | assumption)
                      have hx34 := bt_at t278 t277
                      replace p34 := eq_true p34
                      replace q34 := eq_true q34
                      go_wp2_with (first | (go_at_call 48; (with_reducible refine (sym_Turn.calls t278 t277 t279 _ A36.out).mono ?_); rintro e w37 ⟨rfl, hb⟩; have n0_ := Aside0.mk (below_step (by repeat (first | (with_reducible first | exact HB.out | apply below_alloc | apply pw_below_drewN | apply below_drew1) | exact HB.out)) hb); clear HB; have HB := n0_; clear n0_; (try clear hb); (try clear hb2); (try clear hk); (try clear hi)))
                      repeat (go_quiet (first | (go_at_call 48; (with_reducible refine (sym_Turn.calls t278 t277 t279 _ A36.out).mono ?_); rintro e w37 ⟨rfl, hb⟩; have n0_ := Aside0.mk (below_step (by repeat (first | (with_reducible first | exact HB.out | apply below_alloc | apply pw_below_drewN | apply below_drew1) | exact HB.out)) hb); clear HB; have HB := n0_; clear n0_; (try clear hb); (try clear hb2); (try clear hk); (try clear hi))); try go_wp2_with (first | (go_at_call 48; (with_reducible refine (sym_Turn.calls t278 t277 t279 _ A36.out).mono ?_); rintro e w37 ⟨rfl, hb⟩; have n0_ := Aside0.mk (below_step (by repeat (first | (with_reducible first | exact HB.out | apply below_alloc | apply pw_below_drewN | apply below_drew1) | exact HB.out)) hb); clear HB; have HB := n0_; clear n0_; (try clear hb); (try clear hb2); (try clear hk); (try clear hi))))
                      go_ret
                      exact ⟨by first | rfl | (simp [errW_none, errW_some] <;> rfl) | (simp [*, errW_none, errW_some] <;> rfl), by repeat (first | (with_reducible first | exact HB.out | apply below_alloc | apply pw_below_drewN | apply below_drew1) | exact HB.out)⟩
                    · rw [if_neg c35] at H
                      have c35b0 : ((bt t278 t277) == 49) = false := beq_eq_false_iff_ne.mpr c35
                      have c35b1 : ((bt t278 t277) != 49) = true := bne_iff_ne.mpr c35
                      obtain rfl := Option.some.inj H
                      have p31 : 0 ≤ (t277 : Int) := of_decide_eq_true (by first | (with_reducible assumption) | assumption)
                      have q31 : t277 < (t275.size : Int) := of_decide_eq_true (by first | (with_reducible assumption) | assumption)
                      have hx31 := bt_at t275 t277
                      replace p31 := eq_true p31
                      replace q31 := eq_true q31
                      have p34 : 0 ≤ (t277 : Int) := of_decide_eq_true (by first | (with_reducible assumption) | assumption)
                      have q34 : t277 < (t278.size : Int) := of_decide_eq_true (by first | (with_reducible assumption) | assumption)
                      have hx34 := bt_at t278 t277
                      replace p34 := eq_true p34
                      replace q34 := eq_true q34
                      go_wp2
                      repeat (go_quiet (fail); try go_wp2)
                      go_ret
                      exact ⟨by first | rfl | (simp [errW_none, errW_some] <;> rfl) | (simp [*, errW_none, errW_some] <;> rfl), by repeat (first | (with_reducible first | exact HB.out | apply below_alloc | apply pw_below_drewN | apply below_drew1) | exact HB.out)⟩
                  · rw [if_neg c33] at H
                    exact absurd H (by simp)
                · rw [if_neg c32] at H
                  have c32b0 : ((bt t275 t277) == 48) = false := beq_eq_false_iff_ne.mpr c32
                  have c32b1 : ((bt t275 t277) != 48) = true := bne_iff_ne.mpr c32
                  by_cases c38 : (bt t275 t277) = 49
                  · rw [if_pos c38] at H
                    have c38b0 : ((bt t275 t277) == 49) = true := beq_iff_eq.mpr c38
                    have c38b1 : ((bt t275 t277) != 49) = false := bne_eq_false_iff_eq.mpr c38
                    clear c38
                    by_cases c39 : t277 < (t278.size : Int)
                    · rw [if_pos c39] at H
                      have c39b0 : decide (t277 < (t278.size : Int)) = true := decide_eq_true c39
                      clear c39
                      by_cases c41 : (bt t278 t277) = 48
                      · rw [if_pos c41] at H
                        have c41b0 : ((bt t278 t277) == 48) = true := beq_iff_eq.mpr c41
                        have c41b1 : ((bt t278 t277) != 48) = false := bne_eq_false_iff_eq.mpr c41
                        clear c41
                        replace H := Option.bind_eq_some_iff.mp H
                        obtain ⟨t280, A420, H⟩ := H
                        replace H : (some (t280.toList == t275.toList)) = some r := H
                        have A42 := Aside0.mk A420
                        clear A420
                        obtain rfl := Option.some.inj H
                        have p31 : 0 ≤ (t277 : Int) := of_decide_eq_true (by first | (with_reducible assumption) | assumption)
                        have q31 : t277 < (t275.size : Int) := of_decide_eq_true (by first | (with_reducible assumption) | assumption)
                        have hx31 := bt_at t275 t277
                        replace p31 := eq_true p31
                        replace q31 := eq_true q31
                        have p40 : 0 ≤ (t277 : Int) := of_decide_eq_true (by first | (with_reducible assumption) | assumption)
                        have q40 : t277 < (t278.size : Int) := of_decide_eq_true (by first | (with_reducible assumption) | assumption)
                        have hx40 := bt_at t278 t277
                        replace p40 := eq_true p40
                        replace q40 := eq_true q40
                        go_wp2_with (first | (go_at_call 48; (with_reducible refine (sym_Turn.calls t278 t277 t280 _ A42.out).mono ?_); rintro e w43 ⟨rfl, hb⟩; have n0_ := Aside0.mk (below_step (by repeat (first | (with_reducible first | exact HB.out | apply below_alloc | apply pw_below_drewN | apply below_drew1) | exact HB.out)) hb); clear HB; have HB := n0_; clear n0_; (try clear hb); (try clear hb2); (try clear hk); (try clear hi)))
                        repeat (go_quiet (first | (go_at_call 48; (with_reducible refine (sym_Turn.calls t278 t277 t280 _ A42.out).mono ?_); rintro e w43 ⟨rfl, hb⟩; have n0_ := Aside0.mk (below_step (by repeat (first | (with_reducible first | exact HB.out | apply below_alloc | apply pw_below_drewN | apply below_drew1) | exact HB.out)) hb); clear HB; have HB := n0_; clear n0_; (try clear hb); (try clear hb2); (try clear hk); (try clear hi))); try go_wp2_with (first | (go_at_call 48; (with_reducible refine (sym_Turn.calls t278 t277 t280 _ A42.out).mono ?_); rintro e w43 ⟨rfl, hb⟩; have n0_ := Aside0.mk (below_step (by repeat (first | (with_reducible first | exact HB.out | apply below_alloc | apply pw_below_drewN | apply below_drew1) | exact HB.out)) hb); clear HB; have HB := n0_; clear n0_; (try clear hb); (try clear hb2); (try clear hk); (try clear hi))))
                        go_ret
                        exact ⟨by first | rfl | (simp [errW_none, errW_some] <;> rfl) | (simp [*, errW_none, errW_some] <;> rfl), by repeat (first | (with_reducible first | exact HB.out | apply below_alloc | apply pw_below_drewN | apply below_drew1) | exact HB.out)⟩
                      · rw [if_neg c41] at H
                        have c41b0 : ((bt t278 t277) == 48) = false := beq_eq_false_iff_ne.mpr c41
                        have c41b1 : ((bt t278 t277) != 48) = true := bne_iff_ne.mpr c41
                        obtain rfl := Option.some.inj H
                        have p31 : 0 ≤ (t277 : Int) := of_decide_eq_true (by first | (with_reducible assumption) | assumption)
                        have q31 : t277 < (t275.size : Int) := of_decide_eq_true (by first | (with_reducible assumption) | assumption)
                        have hx31 := bt_at t275 t277
                        replace p31 := eq_true p31
                        replace q31 := eq_true q31
                        have p40 : 0 ≤ (t277 : Int) := of_decide_eq_true (by first | (with_reducible assumption) | assumption)
                        have q40 : t277 < (t278.size : Int) := of_decide_eq_true (by first | (with_reducible assumption) | assumption)
                        have hx40 := bt_at t278 t277
                        replace p40 := eq_true p40
                        replace q40 := eq_true q40
                        go_wp2
                        repeat (go_quiet (fail); try go_wp2)
                        go_ret
                        exact ⟨by first | rfl | (simp [errW_none, errW_some] <;> rfl) | (simp [*, errW_none, errW_some] <;> rfl), by repeat (first | (with_reducible first | exact HB.out | apply below_alloc | apply pw_below_drewN | apply below_drew1) | exact HB.out)⟩
                    · rw [if_neg c39] at H
                      exact absurd H (by simp)
                  · rw [if_neg c38] at H
                    have c38b0 : ((bt t275 t277) == 49) = false := beq_eq_false_iff_ne.mpr c38
                    have c38b1 : ((bt t275 t277) != 49) = true := bne_iff_ne.mpr c38
                    by_cases c44 : (bt t275 t277) = 35
                    · rw [if_pos c44] at H
                      have c44b0 : ((bt t275 t277) == 35) = true := beq_iff_eq.mpr c44
                      have c44b1 : ((bt t275 t277) != 35) = false := bne_eq_false_iff_eq.mpr c44
                      clear c44
                      by_cases c45 : t277 < (t278.size : Int)
                      · rw [if_pos c45] at H
                        have c45b0 : decide (t277 < (t278.size : Int)) = true := decide_eq_true c45
                        clear c45
                        obtain rfl := Option.some.inj H
                        have p31 : 0 ≤ (t277 : Int) := of_decide_eq_true (by first | (with_reducible assumption) | assumption)
                        have q31 : t277 < (t275.size : Int) := of_decide_eq_true (by first | (with_reducible assumption) | assumption)
                        have hx31 := bt_at t275 t277
                        replace p31 := eq_true p31
                        replace q31 := eq_true q31
                        have p46 : 0 ≤ (t277 : Int) := of_decide_eq_true (by first | (with_reducible assumption) | assumption)
                        have q46 : t277 < (t278.size : Int) := of_decide_eq_true (by first | (with_reducible assumption) | assumption)
                        have hx46 := bt_at t278 t277
                        replace p46 := eq_true p46
                        replace q46 := eq_true q46
                        go_wp2
                        repeat (go_quiet (fail); try go_wp2)
                        go_ret
                        exact ⟨by first | rfl | (simp [errW_none, errW_some] <;> rfl) | (simp [*, errW_none, errW_some] <;> rfl), by repeat (first | (with_reducible first | exact HB.out | apply below_alloc | apply pw_below_drewN | apply below_drew1) | exact HB.out)⟩
                      · rw [if_neg c45] at H
                        exact absurd H (by simp)
                    · rw [if_neg c44] at H
                      have c44b0 : ((bt t275 t277) == 35) = false := beq_eq_false_iff_ne.mpr c44
                      have c44b1 : ((bt t275 t277) != 35) = true := bne_iff_ne.mpr c44
                      obtain rfl := Option.some.inj H
                      have p31 : 0 ≤ (t277 : Int) := of_decide_eq_true (by first | (with_reducible assumption) | assumption)
                      have q31 : t277 < (t275.size : Int) := of_decide_eq_true (by first | (with_reducible assumption) | assumption)
                      have hx31 := bt_at t275 t277
                      replace p31 := eq_true p31
                      replace q31 := eq_true q31
                      go_wp2
                      repeat (go_quiet (fail); try go_wp2)
                      go_ret
                      exact ⟨by first | rfl | (simp [errW_none, errW_some] <;> rfl) | (simp [*, errW_none, errW_some] <;> rfl), by repeat (first | (with_reducible first | exact HB.out | apply below_alloc | apply pw_below_drewN | apply below_drew1) | exact HB.out)⟩
              · rw [if_neg c30] at H
                exact absurd H (by simp)
            · rw [if_neg c29] at H
              exact absurd H (by simp)
  · replace c4 := Bool.eq_false_iff.mpr c4
    subst c4
    have H1 : (some false) = some r := by rw [if_neg (show ¬ (false = true) by decide)] at H; exact H
    clear H
    have H := H1
    clear H1
    obtain rfl := Option.some.inj H
    go_enter Try.func13, Try.ntmps13
    go_wp2_with (first | (go_at_call 37; (with_reducible refine (plaitinglaw1_known.calls k  false _ A3.out).mono ?_); rintro e w47 ⟨rfl, hb⟩; have n0_ := Aside0.mk (below_step (by repeat (first | (with_reducible first | exact HB.out | apply below_alloc | apply pw_below_drewN | apply below_drew1) | exact HB.out)) hb); clear HB; have HB := n0_; clear n0_; (try clear hb); (try clear hb2); (try clear hk); (try clear hi)))
    repeat (go_quiet (first | (go_at_call 37; (with_reducible refine (plaitinglaw1_known.calls k  false _ A3.out).mono ?_); rintro e w47 ⟨rfl, hb⟩; have n0_ := Aside0.mk (below_step (by repeat (first | (with_reducible first | exact HB.out | apply below_alloc | apply pw_below_drewN | apply below_drew1) | exact HB.out)) hb); clear HB; have HB := n0_; clear n0_; (try clear hb); (try clear hb2); (try clear hk); (try clear hi))); try go_wp2_with (first | (go_at_call 37; (with_reducible refine (plaitinglaw1_known.calls k  false _ A3.out).mono ?_); rintro e w47 ⟨rfl, hb⟩; have n0_ := Aside0.mk (below_step (by repeat (first | (with_reducible first | exact HB.out | apply below_alloc | apply pw_below_drewN | apply below_drew1) | exact HB.out)) hb); clear HB; have HB := n0_; clear n0_; (try clear hb); (try clear hb2); (try clear hk); (try clear hi))))
    go_ret
    exact ⟨by first | rfl | (simp [errW_none, errW_some] <;> rfl) | (simp [*, errW_none, errW_some] <;> rfl), by repeat (first | (with_reducible first | exact HB.out | apply below_alloc | apply pw_below_drewN | apply below_drew1) | exact HB.out)⟩

/-- THE ONE PURE STATEMENT of plaitinglaw1_SymTurn: yours. -/
def plaitinglaw1_SymTurn.Pure : Prop := ∀ (l0 : List Int) (a1 : Int), l0.length ≤ maxLen → l0.length * 8 ≤ 140737488351232 → (∀ x ∈ l0, (Lit.int .i64 x).wf = true) → (Lit.int .i64 a1).wf = true → ∃ k, plaitinglaw1_SymTurn.f k l0 a1 = some true
theorem plaitinglaw1_SymTurn.walk (P : plaitinglaw1_SymTurn.Pure) (a0 : Option Addr) (len0 cap0 : Nat) (z0 : List Int) (a1 : Int) (w : World) (w0 : (a0 = none ∧ len0 = 0 ∧ cap0 = 0 ∧ z0 = []) ∨ ∃ x, a0 = some x ∧ len0 ≤ cap0 ∧ cap0 ≤ maxLen ∧ z0.length = cap0 ∧ (∀ i, i < z0.length → w.cell? (x.add i) = some (.int .i64 (z0.getD i 0))) ∧ ∀ n ∈ z0, (Lit.int .i64 n).wf = true) (y0 : len0 * 8 ≤ 140737488351232) (w1 : (Lit.int .i64 a1).wf = true) :
    Calls Try.prog 13 #[.slice a0 len0 cap0, .int .i64 a1] w fun e w' => e = .returned (.bool true) ∧ Below w.heap.size w w' := by
  obtain ⟨l0, rfl, hr0, hm0, hw0, hc0⟩ := ReadsInt.ofRowC w0
  obtain ⟨k, h⟩ := P l0 a1 hm0 y0 hw0 w1
  refine (plaitinglaw1_SymTurn.calls k _ _ l0 a1 true w (Kd.C_of_reads (d := (0 : Int)) (h1 := fun _ => rfl) hr0) hc0 h).mono ?_
  rintro e w' ⟨rfl, hd⟩
  exact ⟨rfl, hd⟩

end Go.Proofs.Ytnggjnhfdjjphaa.PTwo
