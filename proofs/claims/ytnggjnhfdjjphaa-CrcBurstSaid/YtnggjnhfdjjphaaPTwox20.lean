-- Written by the session's own program (wip/gen).
import Derived.Test.YtnggjnhfdjjphaaPTwox0
import Derived.Test.YtnggjnhfdjjphaaPTwox2
import Derived.Test.YtnggjnhfdjjphaaPTwox3
import Derived.Test.YtnggjnhfdjjphaaPTwox7
import Derived.Test.YtnggjnhfdjjphaaPTwox8
import Derived.Test.YtnggjnhfdjjphaaPTwox9
import Derived.Test.YtnggjnhfdjjphaaPTwox10
import Derived.Test.YtnggjnhfdjjphaaPTwox13
namespace Go.Proofs.Ytnggjnhfdjjphaa.PTwo
open Go.RowKit Go.Proofs.YtnggjnhfdjjphaaW.PrintWords Go.Proofs.YtnggjnhfdjjphaaW.PrintLast Go.Proofs.YtnggjnhfdjjphaaW.PrintMore
attribute [local go_sem] max2_int min2_int max_two min_two max_three min_three max_four min_four   -- for this text's walks alone
set_option linter.unusedVariables false
set_option linter.unusedSimpArgs false

/-! ### plaitinglaw2_CrcOdd: function 20 -/
def plaitinglaw2_CrcOdd.f (k : Nat) (l0 : List Int) (a1 : Int) (a2 : Int) (a3 : Int) : Option (Bool) := (plaitinglaw2_known.f k).bind fun t212 => (if t212 = true then ((plaitinglaw2_Bits.f k l0).bind fun t213 => ((plaitingref2_Wrap.f k t213).bind fun t214 => ((plaitinglaw2_within.f a1 (wrap64 ((t214.size : Int) - 1))).bind fun t215 => ((plaitinglaw2_within.f a2 (wrap64 ((t214.size : Int) - 1))).bind fun t216 => ((plaitinglaw2_within.f a3 (wrap64 ((t214.size : Int) - 1))).bind fun t217 => ((plaitingref1_Turn.f k t214 t215).bind fun t218 => ((plaitingref1_Turn.f k t218 t216).bind fun t219 => ((plaitingref1_Turn.f k t219 t217).bind fun t220 => ((crc_Open.f k t220).bind fun bt221 => (if bt221.2 = 5 then (some (bt221.1.toList == ([] : List UInt8))) else (some false))))))))))) else (some false))
theorem plaitinglaw2_CrcOdd.mono : ∀ a0 a1 a2 a3 k, LeO (plaitinglaw2_CrcOdd.f k a0 a1 a2 a3) (plaitinglaw2_CrcOdd.f (k + 1) a0 a1 a2 a3) := by
  intro a0 a1 a2 a3 k
  unfold plaitinglaw2_CrcOdd.f
  repeat' first
      | (with_reducible exact crc_Open.mono _ _)
      | (with_reducible exact plaitinglaw2_Bits.mono _ _)
      | (with_reducible exact plaitinglaw2_known.mono _)
      | (with_reducible exact plaitingref1_Turn.mono _ _ _)
      | (with_reducible exact plaitingref2_Wrap.mono _ _)
      | (with_reducible exact LeO.refl _)
      | (with_reducible exact LeO.none _)
      | (with_reducible refine LeO.ite ?_ ?_)
      | (with_reducible refine LeO.bind ?_ (fun _ => ?_))
      | exact crc_Open.mono _ _
      | exact plaitinglaw2_Bits.mono _ _
      | exact plaitinglaw2_known.mono _
      | exact plaitingref1_Turn.mono _ _ _
      | exact plaitingref2_Wrap.mono _ _
      | exact LeO.none _
      | refine LeO.ite ?_ ?_
      | refine LeO.bind ?_ (fun _ => ?_)
set_option maxHeartbeats 8000000 in
set_option maxRecDepth 100000 in
theorem plaitinglaw2_CrcOdd.calls (k : Nat) (A0 : Option Addr) (c0 : Nat) (l0 : List Int) (a1 : Int) (a2 : Int) (a3 : Int) (r : Bool) (w : World) (hr0 : Kd.C (Kd.int .i64) w A0 l0.length l0) (hc0 : l0.length ≤ c0) (h : plaitinglaw2_CrcOdd.f k l0 a1 a2 a3 = some r) :
    Calls Try.prog 20 #[.slice A0 l0.length c0, .int .i64 a1, .int .i64 a2, .int .i64 a3] w fun e w' => e = .returned (.bool r) ∧ Below w.heap.size w w' := by
  have HR0 := Aside0.mk hr0
  have HC0 := Aside0.mk hc0
  clear hr0 hc0
  have HB := Aside0.mk (Below.refl w.heap.size w)
  have H : ((plaitinglaw2_known.f k).bind fun t212 => (if t212 = true then ((plaitinglaw2_Bits.f k l0).bind fun t213 => ((plaitingref2_Wrap.f k t213).bind fun t214 => ((plaitinglaw2_within.f a1 (wrap64 ((t214.size : Int) - 1))).bind fun t215 => ((plaitinglaw2_within.f a2 (wrap64 ((t214.size : Int) - 1))).bind fun t216 => ((plaitinglaw2_within.f a3 (wrap64 ((t214.size : Int) - 1))).bind fun t217 => ((plaitingref1_Turn.f k t214 t215).bind fun t218 => ((plaitingref1_Turn.f k t218 t216).bind fun t219 => ((plaitingref1_Turn.f k t219 t217).bind fun t220 => ((crc_Open.f k t220).bind fun bt221 => (if bt221.2 = 5 then (some (bt221.1.toList == ([] : List UInt8))) else (some false))))))))))) else (some false))) = some r := h
  clear h
  replace H := Option.bind_eq_some_iff.mp H
  obtain ⟨t212, A50, H⟩ := H
  replace H : (if t212 = true then ((plaitinglaw2_Bits.f k l0).bind fun t213 => ((plaitingref2_Wrap.f k t213).bind fun t214 => ((plaitinglaw2_within.f a1 (wrap64 ((t214.size : Int) - 1))).bind fun t215 => ((plaitinglaw2_within.f a2 (wrap64 ((t214.size : Int) - 1))).bind fun t216 => ((plaitinglaw2_within.f a3 (wrap64 ((t214.size : Int) - 1))).bind fun t217 => ((plaitingref1_Turn.f k t214 t215).bind fun t218 => ((plaitingref1_Turn.f k t218 t216).bind fun t219 => ((plaitingref1_Turn.f k t219 t217).bind fun t220 => ((crc_Open.f k t220).bind fun bt221 => (if bt221.2 = 5 then (some (bt221.1.toList == ([] : List UInt8))) else (some false))))))))))) else (some false)) = some r := H
  have A5 := Aside0.mk A50
  clear A50
  by_cases c6 : t212 = true
  · subst c6
    have H1 : ((plaitinglaw2_Bits.f k l0).bind fun t213 => ((plaitingref2_Wrap.f k t213).bind fun t214 => ((plaitinglaw2_within.f a1 (wrap64 ((t214.size : Int) - 1))).bind fun t215 => ((plaitinglaw2_within.f a2 (wrap64 ((t214.size : Int) - 1))).bind fun t216 => ((plaitinglaw2_within.f a3 (wrap64 ((t214.size : Int) - 1))).bind fun t217 => ((plaitingref1_Turn.f k t214 t215).bind fun t218 => ((plaitingref1_Turn.f k t218 t216).bind fun t219 => ((plaitingref1_Turn.f k t219 t217).bind fun t220 => ((crc_Open.f k t220).bind fun bt221 => (if bt221.2 = 5 then (some (bt221.1.toList == ([] : List UInt8))) else (some false))))))))))) = some r := by rw [if_pos rfl] at H; exact H
    clear H
    have H := H1
    clear H1
    replace H := Option.bind_eq_some_iff.mp H
    obtain ⟨t213, A70, H⟩ := H
    replace H : ((plaitingref2_Wrap.f k t213).bind fun t214 => ((plaitinglaw2_within.f a1 (wrap64 ((t214.size : Int) - 1))).bind fun t215 => ((plaitinglaw2_within.f a2 (wrap64 ((t214.size : Int) - 1))).bind fun t216 => ((plaitinglaw2_within.f a3 (wrap64 ((t214.size : Int) - 1))).bind fun t217 => ((plaitingref1_Turn.f k t214 t215).bind fun t218 => ((plaitingref1_Turn.f k t218 t216).bind fun t219 => ((plaitingref1_Turn.f k t219 t217).bind fun t220 => ((crc_Open.f k t220).bind fun bt221 => (if bt221.2 = 5 then (some (bt221.1.toList == ([] : List UInt8))) else (some false)))))))))) = some r := H
    have A7 := Aside0.mk A70
    clear A70
    replace H := Option.bind_eq_some_iff.mp H
    obtain ⟨t214, A80, H⟩ := H
    replace H : ((plaitinglaw2_within.f a1 (wrap64 ((t214.size : Int) - 1))).bind fun t215 => ((plaitinglaw2_within.f a2 (wrap64 ((t214.size : Int) - 1))).bind fun t216 => ((plaitinglaw2_within.f a3 (wrap64 ((t214.size : Int) - 1))).bind fun t217 => ((plaitingref1_Turn.f k t214 t215).bind fun t218 => ((plaitingref1_Turn.f k t218 t216).bind fun t219 => ((plaitingref1_Turn.f k t219 t217).bind fun t220 => ((crc_Open.f k t220).bind fun bt221 => (if bt221.2 = 5 then (some (bt221.1.toList == ([] : List UInt8))) else (some false))))))))) = some r := H
    have A8 := Aside0.mk A80
    clear A80
    replace H := Option.bind_eq_some_iff.mp H
    obtain ⟨t215, A90, H⟩ := H
    replace H : ((plaitinglaw2_within.f a2 (wrap64 ((t214.size : Int) - 1))).bind fun t216 => ((plaitinglaw2_within.f a3 (wrap64 ((t214.size : Int) - 1))).bind fun t217 => ((plaitingref1_Turn.f k t214 t215).bind fun t218 => ((plaitingref1_Turn.f k t218 t216).bind fun t219 => ((plaitingref1_Turn.f k t219 t217).bind fun t220 => ((crc_Open.f k t220).bind fun bt221 => (if bt221.2 = 5 then (some (bt221.1.toList == ([] : List UInt8))) else (some false)))))))) = some r := H
    have A9 := Aside0.mk A90
    clear A90
    replace H := Option.bind_eq_some_iff.mp H
    obtain ⟨t216, A100, H⟩ := H
    replace H : ((plaitinglaw2_within.f a3 (wrap64 ((t214.size : Int) - 1))).bind fun t217 => ((plaitingref1_Turn.f k t214 t215).bind fun t218 => ((plaitingref1_Turn.f k t218 t216).bind fun t219 => ((plaitingref1_Turn.f k t219 t217).bind fun t220 => ((crc_Open.f k t220).bind fun bt221 => (if bt221.2 = 5 then (some (bt221.1.toList == ([] : List UInt8))) else (some false))))))) = some r := H
    have A10 := Aside0.mk A100
    clear A100
    replace H := Option.bind_eq_some_iff.mp H
    obtain ⟨t217, A110, H⟩ := H
    replace H : ((plaitingref1_Turn.f k t214 t215).bind fun t218 => ((plaitingref1_Turn.f k t218 t216).bind fun t219 => ((plaitingref1_Turn.f k t219 t217).bind fun t220 => ((crc_Open.f k t220).bind fun bt221 => (if bt221.2 = 5 then (some (bt221.1.toList == ([] : List UInt8))) else (some false)))))) = some r := H
    have A11 := Aside0.mk A110
    clear A110
    replace H := Option.bind_eq_some_iff.mp H
    obtain ⟨t218, A120, H⟩ := H
    replace H : ((plaitingref1_Turn.f k t218 t216).bind fun t219 => ((plaitingref1_Turn.f k t219 t217).bind fun t220 => ((crc_Open.f k t220).bind fun bt221 => (if bt221.2 = 5 then (some (bt221.1.toList == ([] : List UInt8))) else (some false))))) = some r := H
    have A12 := Aside0.mk A120
    clear A120
    replace H := Option.bind_eq_some_iff.mp H
    obtain ⟨t219, A130, H⟩ := H
    replace H : ((plaitingref1_Turn.f k t219 t217).bind fun t220 => ((crc_Open.f k t220).bind fun bt221 => (if bt221.2 = 5 then (some (bt221.1.toList == ([] : List UInt8))) else (some false)))) = some r := H
    have A13 := Aside0.mk A130
    clear A130
    replace H := Option.bind_eq_some_iff.mp H
    obtain ⟨t220, A140, H⟩ := H
    replace H : ((crc_Open.f k t220).bind fun bt221 => (if bt221.2 = 5 then (some (bt221.1.toList == ([] : List UInt8))) else (some false))) = some r := H
    have A14 := Aside0.mk A140
    clear A140
    replace H := Option.bind_eq_some_iff.mp H
    obtain ⟨⟨t221, t222⟩, A150, H⟩ := H
    replace H : (if t222 = 5 then (some (t221.toList == ([] : List UInt8))) else (some false)) = some r := H
    have A15 := Aside0.mk A150
    clear A150
    by_cases c16 : t222 = 5
    · rw [if_pos c16] at H
      have c16b0 : (t222 == 5) = true := beq_iff_eq.mpr c16
      have c16b1 : (t222 != 5) = false := bne_eq_false_iff_eq.mpr c16
      clear c16
      obtain rfl := Option.some.inj H
      go_enter Try.func20, Try.ntmps20
      go_wp2_with (first | ((with_reducible refine gate_callee (f := 33) rfl ?_); refine goesL_ (some 16) rfl rfl Try.func33 (by kernel_rfl) rfl #[] rfl (by (try simp only [List.map_toArray, List.map_cons, List.map_nil]); first | done | rfl | (simp only [List.length_drop, List.length_take]; rfl)) ?_; (with_reducible refine (plaitinglaw2_known.calls k  true _ A5.out).mono ?_); rintro e w17 ⟨rfl, hb⟩; refine ⟨_, rfl, ?_⟩; have n0_ := Aside0.mk (below_step (by repeat (first | (with_reducible first | exact HB.out | apply below_alloc | apply pw_below_drewN | apply below_drew1) | exact HB.out)) hb); clear HB; have HB := n0_; clear n0_; (try clear hb); (try clear hb2); (try clear hk); (try clear hi)) | ((with_reducible refine gate_callee (f := 49) rfl ?_); refine goesL_ (some 19) rfl rfl Try.func49 (by kernel_rfl) rfl #[.slice A0 l0.length c0] rfl (by (try simp only [List.map_toArray, List.map_cons, List.map_nil]); first | done | rfl | (simp only [List.length_drop, List.length_take]; rfl)) ?_; (with_reducible refine (plaitinglaw2_Bits.calls k _ _ l0 t213 _ ?side1 ?side2 A7.out).mono ?_); (case side1 => repeat (first | exact (Kd.C_below HR0.out HB.out) | (with_reducible refine Kd.C_alloc ?_ _) | (with_reducible refine Kd.C_drewN ?_ _) | (with_reducible refine Kd.C_drew ?_))); (case side2 => exact HC0.out); rintro e w' ⟨rfl, ⟨nd, rfl⟩⟩; refine ⟨_, rfl, ?_⟩) | ((with_reducible refine gate_callee (f := 53) rfl ?_); refine goesL_ (some 20) rfl rfl Try.func53 (by kernel_rfl) rfl #[.string t213] rfl (by (try simp only [List.map_toArray, List.map_cons, List.map_nil]); first | done | rfl | (simp only [List.length_drop, List.length_take]; rfl)) ?_; (with_reducible refine (plaitingref2_Wrap.calls k t213 t214 _ A8.out).mono ?_); rintro e w' ⟨rfl, ⟨nd, rfl⟩⟩; refine ⟨_, rfl, ?_⟩) | ((with_reducible refine gate_callee (f := 34) rfl ?_); refine goesL_ (some 26) rfl rfl Try.func34 (by kernel_rfl) rfl #[.int .i64 a1, .int .i64 (wrap64 ((t214.size : Int) - 1))] rfl (by (try simp only [List.map_toArray, List.map_cons, List.map_nil]); first | done | rfl | (simp only [List.length_drop, List.length_take]; rfl)) ?_; (with_reducible refine (plaitinglaw2_within.calls a1 (wrap64 ((t214.size : Int) - 1)) t215 _ A9.out).mono ?_); rintro e w' ⟨rfl, ⟨nd, rfl⟩⟩; refine ⟨_, rfl, ?_⟩) | ((with_reducible refine gate_callee (f := 34) rfl ?_); refine goesL_ (some 29) rfl rfl Try.func34 (by kernel_rfl) rfl #[.int .i64 a2, .int .i64 (wrap64 ((t214.size : Int) - 1))] rfl (by (try simp only [List.map_toArray, List.map_cons, List.map_nil]); first | done | rfl | (simp only [List.length_drop, List.length_take]; rfl)) ?_; (with_reducible refine (plaitinglaw2_within.calls a2 (wrap64 ((t214.size : Int) - 1)) t216 _ A10.out).mono ?_); rintro e w' ⟨rfl, ⟨nd, rfl⟩⟩; refine ⟨_, rfl, ?_⟩) | ((with_reducible refine gate_callee (f := 34) rfl ?_); refine goesL_ (some 32) rfl rfl Try.func34 (by kernel_rfl) rfl #[.int .i64 a3, .int .i64 (wrap64 ((t214.size : Int) - 1))] rfl (by (try simp only [List.map_toArray, List.map_cons, List.map_nil]); first | done | rfl | (simp only [List.length_drop, List.length_take]; rfl)) ?_; (with_reducible refine (plaitinglaw2_within.calls a3 (wrap64 ((t214.size : Int) - 1)) t217 _ A11.out).mono ?_); rintro e w' ⟨rfl, ⟨nd, rfl⟩⟩; refine ⟨_, rfl, ?_⟩) | ((with_reducible refine gate_callee (f := 54) rfl ?_); refine goesL_ (some 36) rfl rfl Try.func54 (by kernel_rfl) rfl #[.string t214, .int .i64 t215] rfl (by (try simp only [List.map_toArray, List.map_cons, List.map_nil]); first | done | rfl | (simp only [List.length_drop, List.length_take]; rfl)) ?_; (with_reducible refine (plaitingref1_Turn.calls k t214 t215 t218 _ A12.out).mono ?_); rintro e w' ⟨rfl, ⟨nd, rfl⟩⟩; refine ⟨_, rfl, ?_⟩) | ((with_reducible refine gate_callee (f := 54) rfl ?_); refine goesL_ (some 38) rfl rfl Try.func54 (by kernel_rfl) rfl #[.string t218, .int .i64 t216] rfl (by (try simp only [List.map_toArray, List.map_cons, List.map_nil]); first | done | rfl | (simp only [List.length_drop, List.length_take]; rfl)) ?_; (with_reducible refine (plaitingref1_Turn.calls k t218 t216 t219 _ A13.out).mono ?_); rintro e w' ⟨rfl, ⟨nd, rfl⟩⟩; refine ⟨_, rfl, ?_⟩) | ((with_reducible refine gate_callee (f := 54) rfl ?_); refine goesL_ (some 40) rfl rfl Try.func54 (by kernel_rfl) rfl #[.string t219, .int .i64 t217] rfl (by (try simp only [List.map_toArray, List.map_cons, List.map_nil]); first | done | rfl | (simp only [List.length_drop, List.length_take]; rfl)) ?_; (with_reducible refine (plaitingref1_Turn.calls k t219 t217 t220 _ A14.out).mono ?_); rintro e w' ⟨rfl, ⟨nd, rfl⟩⟩; refine ⟨_, rfl, ?_⟩) | ((with_reducible refine gate_callee (f := 51) rfl ?_); refine goesL_ (some 41) rfl rfl Try.func51 (by kernel_rfl) rfl #[.string t220] rfl (by (try simp only [List.map_toArray, List.map_cons, List.map_nil]); first | done | rfl | (simp only [List.length_drop, List.length_take]; rfl)) ?_; (with_reducible refine (crc_Open.calls k t220 t221 t222 _ A15.out).mono ?_); rintro e w18 ⟨rfl, hb⟩; refine ⟨_, rfl, ?_⟩; have n0_ := Aside0.mk (below_step (by repeat (first | (with_reducible first | exact HB.out | apply below_alloc | apply pw_below_drewN | apply below_drew1) | exact HB.out)) hb); clear HB; have HB := n0_; clear n0_; (try clear hb); (try clear hb2); (try clear hk); (try clear hi)))
      go_ret
      exact ⟨by first | rfl | (simp [errW_none, errW_some] <;> rfl) | (simp [*, errW_none, errW_some] <;> rfl), by repeat (first | (with_reducible first | exact HB.out | apply below_alloc | apply pw_below_drewN | apply below_drew1) | exact HB.out)⟩
    · rw [if_neg c16] at H
      have c16b0 : (t222 == 5) = false := beq_eq_false_iff_ne.mpr c16
      have c16b1 : (t222 != 5) = true := bne_iff_ne.mpr c16
      obtain rfl := Option.some.inj H
      go_enter Try.func20, Try.ntmps20
      go_wp2_with (first | ((with_reducible refine gate_callee (f := 33) rfl ?_); refine goesL_ (some 16) rfl rfl Try.func33 (by kernel_rfl) rfl #[] rfl (by (try simp only [List.map_toArray, List.map_cons, List.map_nil]); first | done | rfl | (simp only [List.length_drop, List.length_take]; rfl)) ?_; (with_reducible refine (plaitinglaw2_known.calls k  true _ A5.out).mono ?_); rintro e w19 ⟨rfl, hb⟩; refine ⟨_, rfl, ?_⟩; have n0_ := Aside0.mk (below_step (by repeat (first | (with_reducible first | exact HB.out | apply below_alloc | apply pw_below_drewN | apply below_drew1) | exact HB.out)) hb); clear HB; have HB := n0_; clear n0_; (try clear hb); (try clear hb2); (try clear hk); (try clear hi)) | ((with_reducible refine gate_callee (f := 49) rfl ?_); refine goesL_ (some 19) rfl rfl Try.func49 (by kernel_rfl) rfl #[.slice A0 l0.length c0] rfl (by (try simp only [List.map_toArray, List.map_cons, List.map_nil]); first | done | rfl | (simp only [List.length_drop, List.length_take]; rfl)) ?_; (with_reducible refine (plaitinglaw2_Bits.calls k _ _ l0 t213 _ ?side1 ?side2 A7.out).mono ?_); (case side1 => repeat (first | exact (Kd.C_below HR0.out HB.out) | (with_reducible refine Kd.C_alloc ?_ _) | (with_reducible refine Kd.C_drewN ?_ _) | (with_reducible refine Kd.C_drew ?_))); (case side2 => exact HC0.out); rintro e w' ⟨rfl, ⟨nd, rfl⟩⟩; refine ⟨_, rfl, ?_⟩) | ((with_reducible refine gate_callee (f := 53) rfl ?_); refine goesL_ (some 20) rfl rfl Try.func53 (by kernel_rfl) rfl #[.string t213] rfl (by (try simp only [List.map_toArray, List.map_cons, List.map_nil]); first | done | rfl | (simp only [List.length_drop, List.length_take]; rfl)) ?_; (with_reducible refine (plaitingref2_Wrap.calls k t213 t214 _ A8.out).mono ?_); rintro e w' ⟨rfl, ⟨nd, rfl⟩⟩; refine ⟨_, rfl, ?_⟩) | ((with_reducible refine gate_callee (f := 34) rfl ?_); refine goesL_ (some 26) rfl rfl Try.func34 (by kernel_rfl) rfl #[.int .i64 a1, .int .i64 (wrap64 ((t214.size : Int) - 1))] rfl (by (try simp only [List.map_toArray, List.map_cons, List.map_nil]); first | done | rfl | (simp only [List.length_drop, List.length_take]; rfl)) ?_; (with_reducible refine (plaitinglaw2_within.calls a1 (wrap64 ((t214.size : Int) - 1)) t215 _ A9.out).mono ?_); rintro e w' ⟨rfl, ⟨nd, rfl⟩⟩; refine ⟨_, rfl, ?_⟩) | ((with_reducible refine gate_callee (f := 34) rfl ?_); refine goesL_ (some 29) rfl rfl Try.func34 (by kernel_rfl) rfl #[.int .i64 a2, .int .i64 (wrap64 ((t214.size : Int) - 1))] rfl (by (try simp only [List.map_toArray, List.map_cons, List.map_nil]); first | done | rfl | (simp only [List.length_drop, List.length_take]; rfl)) ?_; (with_reducible refine (plaitinglaw2_within.calls a2 (wrap64 ((t214.size : Int) - 1)) t216 _ A10.out).mono ?_); rintro e w' ⟨rfl, ⟨nd, rfl⟩⟩; refine ⟨_, rfl, ?_⟩) | ((with_reducible refine gate_callee (f := 34) rfl ?_); refine goesL_ (some 32) rfl rfl Try.func34 (by kernel_rfl) rfl #[.int .i64 a3, .int .i64 (wrap64 ((t214.size : Int) - 1))] rfl (by (try simp only [List.map_toArray, List.map_cons, List.map_nil]); first | done | rfl | (simp only [List.length_drop, List.length_take]; rfl)) ?_; (with_reducible refine (plaitinglaw2_within.calls a3 (wrap64 ((t214.size : Int) - 1)) t217 _ A11.out).mono ?_); rintro e w' ⟨rfl, ⟨nd, rfl⟩⟩; refine ⟨_, rfl, ?_⟩) | ((with_reducible refine gate_callee (f := 54) rfl ?_); refine goesL_ (some 36) rfl rfl Try.func54 (by kernel_rfl) rfl #[.string t214, .int .i64 t215] rfl (by (try simp only [List.map_toArray, List.map_cons, List.map_nil]); first | done | rfl | (simp only [List.length_drop, List.length_take]; rfl)) ?_; (with_reducible refine (plaitingref1_Turn.calls k t214 t215 t218 _ A12.out).mono ?_); rintro e w' ⟨rfl, ⟨nd, rfl⟩⟩; refine ⟨_, rfl, ?_⟩) | ((with_reducible refine gate_callee (f := 54) rfl ?_); refine goesL_ (some 38) rfl rfl Try.func54 (by kernel_rfl) rfl #[.string t218, .int .i64 t216] rfl (by (try simp only [List.map_toArray, List.map_cons, List.map_nil]); first | done | rfl | (simp only [List.length_drop, List.length_take]; rfl)) ?_; (with_reducible refine (plaitingref1_Turn.calls k t218 t216 t219 _ A13.out).mono ?_); rintro e w' ⟨rfl, ⟨nd, rfl⟩⟩; refine ⟨_, rfl, ?_⟩) | ((with_reducible refine gate_callee (f := 54) rfl ?_); refine goesL_ (some 40) rfl rfl Try.func54 (by kernel_rfl) rfl #[.string t219, .int .i64 t217] rfl (by (try simp only [List.map_toArray, List.map_cons, List.map_nil]); first | done | rfl | (simp only [List.length_drop, List.length_take]; rfl)) ?_; (with_reducible refine (plaitingref1_Turn.calls k t219 t217 t220 _ A14.out).mono ?_); rintro e w' ⟨rfl, ⟨nd, rfl⟩⟩; refine ⟨_, rfl, ?_⟩) | ((with_reducible refine gate_callee (f := 51) rfl ?_); refine goesL_ (some 41) rfl rfl Try.func51 (by kernel_rfl) rfl #[.string t220] rfl (by (try simp only [List.map_toArray, List.map_cons, List.map_nil]); first | done | rfl | (simp only [List.length_drop, List.length_take]; rfl)) ?_; (with_reducible refine (crc_Open.calls k t220 t221 t222 _ A15.out).mono ?_); rintro e w20 ⟨rfl, hb⟩; refine ⟨_, rfl, ?_⟩; have n0_ := Aside0.mk (below_step (by repeat (first | (with_reducible first | exact HB.out | apply below_alloc | apply pw_below_drewN | apply below_drew1) | exact HB.out)) hb); clear HB; have HB := n0_; clear n0_; (try clear hb); (try clear hb2); (try clear hk); (try clear hi)))
      go_ret
      exact ⟨by first | rfl | (simp [errW_none, errW_some] <;> rfl) | (simp [*, errW_none, errW_some] <;> rfl), by repeat (first | (with_reducible first | exact HB.out | apply below_alloc | apply pw_below_drewN | apply below_drew1) | exact HB.out)⟩
  · replace c6 := Bool.eq_false_iff.mpr c6
    subst c6
    have H1 : (some false) = some r := by rw [if_neg (show ¬ (false = true) by decide)] at H; exact H
    clear H
    have H := H1
    clear H1
    obtain rfl := Option.some.inj H
    go_enter Try.func20, Try.ntmps20
    go_wp2_with (first | ((with_reducible refine gate_callee (f := 33) rfl ?_); refine goesL_ (some 16) rfl rfl Try.func33 (by kernel_rfl) rfl #[] rfl (by (try simp only [List.map_toArray, List.map_cons, List.map_nil]); first | done | rfl | (simp only [List.length_drop, List.length_take]; rfl)) ?_; (with_reducible refine (plaitinglaw2_known.calls k  false _ A5.out).mono ?_); rintro e w21 ⟨rfl, hb⟩; refine ⟨_, rfl, ?_⟩; have n0_ := Aside0.mk (below_step (by repeat (first | (with_reducible first | exact HB.out | apply below_alloc | apply pw_below_drewN | apply below_drew1) | exact HB.out)) hb); clear HB; have HB := n0_; clear n0_; (try clear hb); (try clear hb2); (try clear hk); (try clear hi)))
    go_ret
    exact ⟨by first | rfl | (simp [errW_none, errW_some] <;> rfl) | (simp [*, errW_none, errW_some] <;> rfl), by repeat (first | (with_reducible first | exact HB.out | apply below_alloc | apply pw_below_drewN | apply below_drew1) | exact HB.out)⟩

/-- THE ONE PURE STATEMENT of plaitinglaw2_CrcOdd: yours. -/
def plaitinglaw2_CrcOdd.Pure : Prop := ∀ (l0 : List Int) (a1 : Int) (a2 : Int) (a3 : Int), l0.length ≤ maxLen → l0.length * 8 ≤ 140737488351232 → (∀ x ∈ l0, (Lit.int .i64 x).wf = true) → (Lit.int .i64 a1).wf = true → (Lit.int .i64 a2).wf = true → (Lit.int .i64 a3).wf = true → ∃ k, plaitinglaw2_CrcOdd.f k l0 a1 a2 a3 = some true
theorem plaitinglaw2_CrcOdd.walk (P : plaitinglaw2_CrcOdd.Pure) (a0 : Option Addr) (len0 cap0 : Nat) (z0 : List Int) (a1 : Int) (a2 : Int) (a3 : Int) (w : World) (w0 : (a0 = none ∧ len0 = 0 ∧ cap0 = 0 ∧ z0 = []) ∨ ∃ x, a0 = some x ∧ len0 ≤ cap0 ∧ cap0 ≤ maxLen ∧ z0.length = cap0 ∧ (∀ i, i < z0.length → w.cell? (x.add i) = some (.int .i64 (z0.getD i 0))) ∧ ∀ n ∈ z0, (Lit.int .i64 n).wf = true) (y0 : len0 * 8 ≤ 140737488351232) (w1 : (Lit.int .i64 a1).wf = true) (w2 : (Lit.int .i64 a2).wf = true) (w3 : (Lit.int .i64 a3).wf = true) :
    Calls Try.prog 20 #[.slice a0 len0 cap0, .int .i64 a1, .int .i64 a2, .int .i64 a3] w fun e w' => e = .returned (.bool true) ∧ Below w.heap.size w w' := by
  obtain ⟨l0, rfl, hr0, hm0, hw0, hc0⟩ := ReadsInt.ofRowC w0
  obtain ⟨k, h⟩ := P l0 a1 a2 a3 hm0 y0 hw0 w1 w2 w3
  refine (plaitinglaw2_CrcOdd.calls k _ _ l0 a1 a2 a3 true w (Kd.C_of_reads (d := (0 : Int)) (h1 := fun _ => rfl) hr0) hc0 h).mono ?_
  rintro e w' ⟨rfl, hd⟩
  exact ⟨rfl, hd⟩

/-! ### plaitinglaw1_known: function 37 -/
def plaitinglaw1_known.f (k : Nat)  : Option (Bool) := (sym_Clean.f (⟨#[48, 49, 120, 49]⟩ : ByteArray)).bind fun t223 => (if t223.toList = ([48, 49] : List UInt8) then ((sym_Bits.f k 5 3).bind fun t224 => (some (t224.toList == ([49, 48, 49] : List UInt8)))) else (some false))
theorem plaitinglaw1_known.mono : ∀ k, LeO (plaitinglaw1_known.f k ) (plaitinglaw1_known.f (k + 1) ) := by
  intro  k
  unfold plaitinglaw1_known.f
  repeat' first
      | (with_reducible exact sym_Bits.mono _ _ _)
      | (with_reducible exact LeO.refl _)
      | (with_reducible exact LeO.none _)
      | (with_reducible refine LeO.ite ?_ ?_)
      | (with_reducible refine LeO.bind ?_ (fun _ => ?_))
      | exact sym_Bits.mono _ _ _
      | exact LeO.none _
      | refine LeO.ite ?_ ?_
      | refine LeO.bind ?_ (fun _ => ?_)
set_option maxHeartbeats 8000000 in
set_option maxRecDepth 100000 in
theorem plaitinglaw1_known.calls (k : Nat)  (r : Bool) (w : World) (h : plaitinglaw1_known.f k  = some r) :
    Calls Try.prog 37 #[] w fun e w' => e = .returned (.bool r) ∧ Below w.heap.size w w' := by
  have HB := Aside0.mk (Below.refl w.heap.size w)
  have H : ((sym_Clean.f (⟨#[48, 49, 120, 49]⟩ : ByteArray)).bind fun t223 => (if t223.toList = ([48, 49] : List UInt8) then ((sym_Bits.f k 5 3).bind fun t224 => (some (t224.toList == ([49, 48, 49] : List UInt8)))) else (some false))) = some r := h
  clear h
  replace H := Option.bind_eq_some_iff.mp H
  obtain ⟨t223, A10, H⟩ := H
  replace H : (if t223.toList = ([48, 49] : List UInt8) then ((sym_Bits.f k 5 3).bind fun t224 => (some (t224.toList == ([49, 48, 49] : List UInt8)))) else (some false)) = some r := H
  have A1 := Aside0.mk A10
  clear A10
  by_cases c2 : t223.toList = ([48, 49] : List UInt8)
  · rw [if_pos c2] at H
    have c2b0 : (t223.toList == ([48, 49] : List UInt8)) = true := beq_iff_eq.mpr c2
    have c2b1 : (t223.toList != ([48, 49] : List UInt8)) = false := bne_eq_false_iff_eq.mpr c2
    clear c2
    replace H := Option.bind_eq_some_iff.mp H
    obtain ⟨t224, A30, H⟩ := H
    replace H : (some (t224.toList == ([49, 48, 49] : List UInt8))) = some r := H
    have A3 := Aside0.mk A30
    clear A30
    obtain rfl := Option.some.inj H
    go_enter Try.func37, Try.ntmps37
    go_wp2_with (first | ((with_reducible refine gate_callee (f := 38) rfl ?_); refine goesL_ (some 1) rfl rfl Try.func38 (by kernel_rfl) rfl #[.string (⟨#[48, 49, 120, 49]⟩ : ByteArray)] rfl (by (try simp only [List.map_toArray, List.map_cons, List.map_nil]); first | done | rfl | (simp only [List.length_drop, List.length_take]; rfl)) ?_; (with_reducible refine (sym_Clean.calls (⟨#[48, 49, 120, 49]⟩ : ByteArray) t223 _ A1.out).mono ?_); rintro e w4 ⟨rfl, hb⟩; refine ⟨_, rfl, ?_⟩; have n0_ := Aside0.mk (below_step (by repeat (first | (with_reducible first | exact HB.out | apply below_alloc | apply pw_below_drewN | apply below_drew1) | exact HB.out)) hb); clear HB; have HB := n0_; clear n0_; (try clear hb); (try clear hb2); (try clear hk); (try clear hi)) | (go_at_call 45; (with_reducible refine (sym_Bits.calls k 5 3 t224 _ A3.out).mono ?_); rintro e w5 ⟨rfl, hb⟩; have n0_ := Aside0.mk (below_step (by repeat (first | (with_reducible first | exact HB.out | apply below_alloc | apply pw_below_drewN | apply below_drew1) | exact HB.out)) hb); clear HB; have HB := n0_; clear n0_; (try clear hb); (try clear hb2); (try clear hk); (try clear hi)))
    go_ret
    exact ⟨by first | rfl | (simp [errW_none, errW_some] <;> rfl) | (simp [*, errW_none, errW_some] <;> rfl), by repeat (first | (with_reducible first | exact HB.out | apply below_alloc | apply pw_below_drewN | apply below_drew1) | exact HB.out)⟩
  · rw [if_neg c2] at H
    have c2b0 : (t223.toList == ([48, 49] : List UInt8)) = false := beq_eq_false_iff_ne.mpr c2
    have c2b1 : (t223.toList != ([48, 49] : List UInt8)) = true := bne_iff_ne.mpr c2
    obtain rfl := Option.some.inj H
    go_enter Try.func37, Try.ntmps37
    go_wp2_with (first | ((with_reducible refine gate_callee (f := 38) rfl ?_); refine goesL_ (some 1) rfl rfl Try.func38 (by kernel_rfl) rfl #[.string (⟨#[48, 49, 120, 49]⟩ : ByteArray)] rfl (by (try simp only [List.map_toArray, List.map_cons, List.map_nil]); first | done | rfl | (simp only [List.length_drop, List.length_take]; rfl)) ?_; (with_reducible refine (sym_Clean.calls (⟨#[48, 49, 120, 49]⟩ : ByteArray) t223 _ A1.out).mono ?_); rintro e w6 ⟨rfl, hb⟩; refine ⟨_, rfl, ?_⟩; have n0_ := Aside0.mk (below_step (by repeat (first | (with_reducible first | exact HB.out | apply below_alloc | apply pw_below_drewN | apply below_drew1) | exact HB.out)) hb); clear HB; have HB := n0_; clear n0_; (try clear hb); (try clear hb2); (try clear hk); (try clear hi)))
    go_ret
    exact ⟨by first | rfl | (simp [errW_none, errW_some] <;> rfl) | (simp [*, errW_none, errW_some] <;> rfl), by repeat (first | (with_reducible first | exact HB.out | apply below_alloc | apply pw_below_drewN | apply below_drew1) | exact HB.out)⟩

end Go.Proofs.Ytnggjnhfdjjphaa.PTwo
