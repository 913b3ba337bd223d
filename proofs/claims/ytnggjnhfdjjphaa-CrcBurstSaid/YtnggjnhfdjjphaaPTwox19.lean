-- Written by the session's own program (wip/gen).
import Derived.Test.YtnggjnhfdjjphaaPTwox0
import Derived.Test.YtnggjnhfdjjphaaPTwox3
import Derived.Test.YtnggjnhfdjjphaaPTwox7
import Derived.Test.YtnggjnhfdjjphaaPTwox9
import Derived.Test.YtnggjnhfdjjphaaPTwox10
import Derived.Test.YtnggjnhfdjjphaaPTwox13
namespace Go.Proofs.Ytnggjnhfdjjphaa.PTwo
open Go.RowKit Go.Proofs.YtnggjnhfdjjphaaW.PrintWords Go.Proofs.YtnggjnhfdjjphaaW.PrintLast Go.Proofs.YtnggjnhfdjjphaaW.PrintMore
attribute [local go_sem] max2_int min2_int max_two min_two max_three min_three max_four min_four   -- for this text's walks alone
set_option linter.unusedVariables false
set_option linter.unusedSimpArgs false

/-! ### plaitinglaw2_CrcBurst: function 19 -/
def plaitinglaw2_CrcBurst.l0 : Nat → ByteArray → Int → Int → Int → Option (Bool)
  | 0, _, _, _, _ => none
  | k + 1, x7, x9, x10, x11 => if x11 < 16 then (if 0 ≤ (IntKind.u64.wrap (x11)) then (if (Go.bits .and .i64 (shr .i64 x10 (IntKind.u64.wrap (x11))) 1) = 1 then ((plaitingref1_Turn.f k x7 (wrap64 (x9 + x11))).bind fun t209 => (plaitinglaw2_CrcBurst.l0 k t209 x9 x10 (wrap64 (x11 + 1)))) else (plaitinglaw2_CrcBurst.l0 k x7 x9 x10 (wrap64 (x11 + 1)))) else (none)) else ((crc_Open.f k x7).bind fun bt210 => (if bt210.2 = 5 then (some (bt210.1.toList == ([] : List UInt8))) else (some false)))
def plaitinglaw2_CrcBurst.f (k : Nat) (l0 : List Int) (a1 : Int) (a2 : Int) : Option (Bool) := (plaitinglaw2_known.f k).bind fun t204 => (if t204 = true then ((plaitinglaw2_Bits.f k l0).bind fun t205 => ((plaitingref2_Wrap.f k t205).bind fun t206 => ((plaitinglaw2_within.f a1 (wrap64 ((wrap64 ((t206.size : Int) - 1)) - 15))).bind fun t207 => ((plaitinglaw2_within.f a2 65535).bind fun t208 => (plaitinglaw2_CrcBurst.l0 k t206 t207 (wrap64 (1 + t208)) 0))))) else (some false))
theorem plaitinglaw2_CrcBurst.mono_l : ∀ k, (∀ y0 y1 y2 y3, LeO (plaitinglaw2_CrcBurst.l0 k y0 y1 y2 y3) (plaitinglaw2_CrcBurst.l0 (k + 1) y0 y1 y2 y3))
  | 0 => fun _ _ _ _ r h => by simp [plaitinglaw2_CrcBurst.l0] at h
  | k + 1 => by
    have ih0 := plaitinglaw2_CrcBurst.mono_l k
    · intro y0 y1 y2 y3
      unfold plaitinglaw2_CrcBurst.l0
      repeat' first
      | (with_reducible exact ih0 _ _ _ _)
      | (with_reducible exact crc_Open.mono _ _)
      | (with_reducible exact plaitinglaw2_Bits.mono _ _)
      | (with_reducible exact plaitinglaw2_known.mono _)
      | (with_reducible exact plaitingref1_Turn.mono _ _ _)
      | (with_reducible exact plaitingref2_Wrap.mono _ _)
      | (with_reducible exact LeO.refl _)
      | (with_reducible exact LeO.none _)
      | (with_reducible refine LeO.ite ?_ ?_)
      | (with_reducible refine LeO.bind ?_ (fun _ => ?_))
      | exact ih0 _ _ _ _
      | exact crc_Open.mono _ _
      | exact plaitinglaw2_Bits.mono _ _
      | exact plaitinglaw2_known.mono _
      | exact plaitingref1_Turn.mono _ _ _
      | exact plaitingref2_Wrap.mono _ _
      | exact LeO.none _
      | refine LeO.ite ?_ ?_
      | refine LeO.bind ?_ (fun _ => ?_)
theorem plaitinglaw2_CrcBurst.mono : ∀ a0 a1 a2 k, LeO (plaitinglaw2_CrcBurst.f k a0 a1 a2) (plaitinglaw2_CrcBurst.f (k + 1) a0 a1 a2) := by
  intro a0 a1 a2 k
  have ih0 := plaitinglaw2_CrcBurst.mono_l k
  unfold plaitinglaw2_CrcBurst.f
  repeat' first
      | (with_reducible exact ih0 _ _ _ _)
      | (with_reducible exact crc_Open.mono _ _)
      | (with_reducible exact plaitinglaw2_Bits.mono _ _)
      | (with_reducible exact plaitinglaw2_known.mono _)
      | (with_reducible exact plaitingref1_Turn.mono _ _ _)
      | (with_reducible exact plaitingref2_Wrap.mono _ _)
      | (with_reducible exact LeO.refl _)
      | (with_reducible exact LeO.none _)
      | (with_reducible refine LeO.ite ?_ ?_)
      | (with_reducible refine LeO.bind ?_ (fun _ => ?_))
      | exact ih0 _ _ _ _
      | exact crc_Open.mono _ _
      | exact plaitinglaw2_Bits.mono _ _
      | exact plaitinglaw2_known.mono _
      | exact plaitingref1_Turn.mono _ _ _
      | exact plaitingref2_Wrap.mono _ _
      | exact LeO.none _
      | refine LeO.ite ?_ ?_
      | refine LeO.bind ?_ (fun _ => ?_)
set_option maxHeartbeats 8000000 in
set_option maxRecDepth 100000 in
theorem plaitinglaw2_CrcBurst.calls (k : Nat) (A0 : Option Addr) (c0 : Nat) (l0 : List Int) (a1 : Int) (a2 : Int) (r : Bool) (w : World) (hr0 : Kd.C (Kd.int .i64) w A0 l0.length l0) (hc0 : l0.length ≤ c0) (h : plaitinglaw2_CrcBurst.f k l0 a1 a2 = some r) :
    Calls Try.prog 19 #[.slice A0 l0.length c0, .int .i64 a1, .int .i64 a2] w fun e w' => e = .returned (.bool r) ∧ Below w.heap.size w w' := by
  have HR0 := Aside0.mk hr0
  have HC0 := Aside0.mk hc0
  clear hr0 hc0
  have HB := Aside0.mk (Below.refl w.heap.size w)
  have H : ((plaitinglaw2_known.f k).bind fun t204 => (if t204 = true then ((plaitinglaw2_Bits.f k l0).bind fun t205 => ((plaitingref2_Wrap.f k t205).bind fun t206 => ((plaitinglaw2_within.f a1 (wrap64 ((wrap64 ((t206.size : Int) - 1)) - 15))).bind fun t207 => ((plaitinglaw2_within.f a2 65535).bind fun t208 => (plaitinglaw2_CrcBurst.l0 k t206 t207 (wrap64 (1 + t208)) 0))))) else (some false))) = some r := h
  clear h
  replace H := Option.bind_eq_some_iff.mp H
  obtain ⟨t204, A40, H⟩ := H
  replace H : (if t204 = true then ((plaitinglaw2_Bits.f k l0).bind fun t205 => ((plaitingref2_Wrap.f k t205).bind fun t206 => ((plaitinglaw2_within.f a1 (wrap64 ((wrap64 ((t206.size : Int) - 1)) - 15))).bind fun t207 => ((plaitinglaw2_within.f a2 65535).bind fun t208 => (plaitinglaw2_CrcBurst.l0 k t206 t207 (wrap64 (1 + t208)) 0))))) else (some false)) = some r := H
  have A4 := Aside0.mk A40
  clear A40
  by_cases c5 : t204 = true
  · subst c5
    have H1 : ((plaitinglaw2_Bits.f k l0).bind fun t205 => ((plaitingref2_Wrap.f k t205).bind fun t206 => ((plaitinglaw2_within.f a1 (wrap64 ((wrap64 ((t206.size : Int) - 1)) - 15))).bind fun t207 => ((plaitinglaw2_within.f a2 65535).bind fun t208 => (plaitinglaw2_CrcBurst.l0 k t206 t207 (wrap64 (1 + t208)) 0))))) = some r := by rw [if_pos rfl] at H; exact H
    clear H
    have H := H1
    clear H1
    replace H := Option.bind_eq_some_iff.mp H
    obtain ⟨t205, A60, H⟩ := H
    replace H : ((plaitingref2_Wrap.f k t205).bind fun t206 => ((plaitinglaw2_within.f a1 (wrap64 ((wrap64 ((t206.size : Int) - 1)) - 15))).bind fun t207 => ((plaitinglaw2_within.f a2 65535).bind fun t208 => (plaitinglaw2_CrcBurst.l0 k t206 t207 (wrap64 (1 + t208)) 0)))) = some r := H
    have A6 := Aside0.mk A60
    clear A60
    replace H := Option.bind_eq_some_iff.mp H
    obtain ⟨t206, A70, H⟩ := H
    replace H : ((plaitinglaw2_within.f a1 (wrap64 ((wrap64 ((t206.size : Int) - 1)) - 15))).bind fun t207 => ((plaitinglaw2_within.f a2 65535).bind fun t208 => (plaitinglaw2_CrcBurst.l0 k t206 t207 (wrap64 (1 + t208)) 0))) = some r := H
    have A7 := Aside0.mk A70
    clear A70
    replace H := Option.bind_eq_some_iff.mp H
    obtain ⟨t207, A80, H⟩ := H
    replace H : ((plaitinglaw2_within.f a2 65535).bind fun t208 => (plaitinglaw2_CrcBurst.l0 k t206 t207 (wrap64 (1 + t208)) 0)) = some r := H
    have A8 := Aside0.mk A80
    clear A80
    replace H := Option.bind_eq_some_iff.mp H
    obtain ⟨t208, A90, H⟩ := H
    replace H : (plaitinglaw2_CrcBurst.l0 k t206 t207 (wrap64 (1 + t208)) 0) = some r := H
    have A9 := Aside0.mk A90
    clear A90
    have H' := Aside0.mk H
    clear H
    go_enter Try.func19, Try.ntmps19
    go_wp2_with (first | ((with_reducible refine gate_callee (f := 33) rfl ?_); refine goesL_ (some 14) rfl rfl Try.func33 (by kernel_rfl) rfl #[] rfl (by (try simp only [List.map_toArray, List.map_cons, List.map_nil]); first | done | rfl | (simp only [List.length_drop, List.length_take]; rfl)) ?_; (with_reducible refine (plaitinglaw2_known.calls k  true _ A4.out).mono ?_); rintro e w10 ⟨rfl, hb⟩; refine ⟨_, rfl, ?_⟩; have n0_ := Aside0.mk (below_step (by repeat (first | (with_reducible first | exact HB.out | apply below_alloc | apply pw_below_drewN | apply below_drew1) | exact HB.out)) hb); clear HB; have HB := n0_; clear n0_; (try clear hb); (try clear hb2); (try clear hk); (try clear hi)) | ((with_reducible refine gate_callee (f := 49) rfl ?_); refine goesL_ (some 17) rfl rfl Try.func49 (by kernel_rfl) rfl #[.slice A0 l0.length c0] rfl (by (try simp only [List.map_toArray, List.map_cons, List.map_nil]); first | done | rfl | (simp only [List.length_drop, List.length_take]; rfl)) ?_; (with_reducible refine (plaitinglaw2_Bits.calls k _ _ l0 t205 _ ?side1 ?side2 A6.out).mono ?_); (case side1 => repeat (first | exact (Kd.C_below HR0.out HB.out) | (with_reducible refine Kd.C_alloc ?_ _) | (with_reducible refine Kd.C_drewN ?_ _) | (with_reducible refine Kd.C_drew ?_))); (case side2 => exact HC0.out); rintro e w' ⟨rfl, ⟨nd, rfl⟩⟩; refine ⟨_, rfl, ?_⟩) | ((with_reducible refine gate_callee (f := 53) rfl ?_); refine goesL_ (some 18) rfl rfl Try.func53 (by kernel_rfl) rfl #[.string t205] rfl (by (try simp only [List.map_toArray, List.map_cons, List.map_nil]); first | done | rfl | (simp only [List.length_drop, List.length_take]; rfl)) ?_; (with_reducible refine (plaitingref2_Wrap.calls k t205 t206 _ A7.out).mono ?_); rintro e w' ⟨rfl, ⟨nd, rfl⟩⟩; refine ⟨_, rfl, ?_⟩) | ((with_reducible refine gate_callee (f := 34) rfl ?_); refine goesL_ (some 25) rfl rfl Try.func34 (by kernel_rfl) rfl #[.int .i64 a1, .int .i64 (wrap64 ((wrap64 ((t206.size : Int) - 1)) - 15))] rfl (by (try simp only [List.map_toArray, List.map_cons, List.map_nil]); first | done | rfl | (simp only [List.length_drop, List.length_take]; rfl)) ?_; (with_reducible refine (plaitinglaw2_within.calls a1 (wrap64 ((wrap64 ((t206.size : Int) - 1)) - 15)) t207 _ A8.out).mono ?_); rintro e w' ⟨rfl, ⟨nd, rfl⟩⟩; refine ⟨_, rfl, ?_⟩) | ((with_reducible refine gate_callee (f := 34) rfl ?_); refine goesL_ (some 27) rfl rfl Try.func34 (by kernel_rfl) rfl #[.int .i64 a2, .int .i64 65535] rfl (by (try simp only [List.map_toArray, List.map_cons, List.map_nil]); first | done | rfl | (simp only [List.length_drop, List.length_take]; rfl)) ?_; (with_reducible refine (plaitinglaw2_within.calls a2 65535 t208 _ A9.out).mono ?_); rintro e w' ⟨rfl, ⟨nd, rfl⟩⟩; refine ⟨_, rfl, ?_⟩))
    go_loopg [7, 11] k (fun kq v7 v11 w' => ∃ (x7_1 : ByteArray) (x11_1 : Int), v7 = .string x7_1 ∧ v11 = .int .i64 x11_1 ∧ Aside0 (plaitinglaw2_CrcBurst.l0 kq x7_1 t207 (wrap64 (1 + t208)) x11_1 = some r) ∧ Aside0 (kq ≤ k) ∧ Aside0 (Below w.heap.size w w'))
    case atStart => exact ⟨(t206), (0), (by first | rfl | (simp; done) | (simp [*]; done)), (by first | rfl | (simp; done) | (simp [*]; done)), H', ⟨Nat.le_refl _⟩, ⟨by repeat (first | (with_reducible first | exact HB.out | apply below_alloc | apply pw_below_drewN | apply below_drew1) | exact HB.out)⟩⟩
    case round =>
      clear H'
      try clear c1
      try clear p2
      try clear c3
      try clear c4
      try clear c5
      try clear p6
      obtain ⟨x7_1, x11_1, rfl, rfl, HA, HK1, HB⟩ := hrel
      cases gk with
      | zero => exact absurd HA.out (by simp [plaitinglaw2_CrcBurst.l0])
      | succ k1 =>
        have H := HA.out
        clear HA
        simp only [plaitinglaw2_CrcBurst.l0] at H
        by_cases c11 : x11_1 < 16
        · rw [if_pos c11] at H
          have c11b0 : decide (x11_1 < 16) = true := decide_eq_true c11
          clear c11
          obtain ⟨ji12, hji12⟩ : ∃ j_ : Int, (IntKind.u64.wrap (x11_1)) = j_ := ⟨_, rfl⟩
          replace H : (if 0 ≤ (ji12) then (if (Go.bits .and .i64 (shr .i64 (wrap64 (1 + t208)) (ji12)) 1) = 1 then ((plaitingref1_Turn.f k1 x7_1 (wrap64 (t207 + x11_1))).bind fun t209 => (plaitinglaw2_CrcBurst.l0 k1 t209 t207 (wrap64 (1 + t208)) (wrap64 (x11_1 + 1)))) else (plaitinglaw2_CrcBurst.l0 k1 x7_1 t207 (wrap64 (1 + t208)) (wrap64 (x11_1 + 1)))) else (none)) = some r := by first | (rw [hji12] at H; exact H) | (simp only [hji12] at H ⊢; exact H)
          by_cases c13 : 0 ≤ (ji12)
          · rw [if_pos c13] at H
            have c13b0 := eq_true c13
            have c13b1 : decide (0 ≤ (ji12)) = true := decide_eq_true c13
            clear c13
            obtain ⟨ji14, hji14⟩ : ∃ j_ : Int, (shr .i64 (wrap64 (1 + t208)) (ji12)) = j_ := ⟨_, rfl⟩
            replace H : (if (Go.bits .and .i64 (ji14) 1) = 1 then ((plaitingref1_Turn.f k1 x7_1 (wrap64 (t207 + x11_1))).bind fun t209 => (plaitinglaw2_CrcBurst.l0 k1 t209 t207 (wrap64 (1 + t208)) (wrap64 (x11_1 + 1)))) else (plaitinglaw2_CrcBurst.l0 k1 x7_1 t207 (wrap64 (1 + t208)) (wrap64 (x11_1 + 1)))) = some r := by first | (rw [hji14] at H; exact H) | (simp only [hji14] at H ⊢; exact H)
            have hji14_ : ((wrap64 (1 + t208)) / 2 ^ min (ji12).toNat 64) = ji14 := hji14
            have hji14z : (ji12) ≤ 64 → ((wrap64 (1 + t208)) / 2 ^ (ji12).toNat) = ji14 := shr_small hji14
            by_cases c15 : (Go.bits .and .i64 (ji14) 1) = 1
            · rw [if_pos c15] at H
              have c15b0 : ((Go.bits .and .i64 (ji14) 1) == 1) = true := beq_iff_eq.mpr c15
              have c15b1 : ((Go.bits .and .i64 (ji14) 1) != 1) = false := bne_eq_false_iff_eq.mpr c15
              clear c15
              replace H := Option.bind_eq_some_iff.mp H
              obtain ⟨t209, A160, H⟩ := H
              replace H : (plaitinglaw2_CrcBurst.l0 k1 t209 t207 (wrap64 (1 + t208)) (wrap64 (x11_1 + 1))) = some r := H
              have A16 := Aside0.mk A160
              clear A160
              have H' := Aside0.mk H
              clear H
              go_wp2_with (first | ((with_reducible refine gate_callee (f := 54) rfl ?_); refine goesL_ (some 43) rfl rfl Try.func54 (by kernel_rfl) rfl #[.string x7_1, .int .i64 (wrap64 (t207 + x11_1))] rfl (by (try simp only [List.map_toArray, List.map_cons, List.map_nil]); first | done | rfl | (simp only [List.length_drop, List.length_take]; rfl)) ?_; (with_reducible refine (plaitingref1_Turn.calls k1 x7_1 (wrap64 (t207 + x11_1)) t209 _ A16.out).mono ?_); rintro e w' ⟨rfl, ⟨nd, rfl⟩⟩; refine ⟨_, rfl, ?_⟩))
              go_roundg k1
              case measure => have := HK1.out; omega
              case rel => exact ⟨(t209), (wrap64 (x11_1 + 1)), (by first | rfl | (simp; done) | (simp [*]; done)), (by first | rfl | (simp; done) | (simp [*]; done)), H', ⟨by have := HK1.out; omega⟩, ⟨by repeat (first | (with_reducible first | exact HB.out | apply below_alloc | apply pw_below_drewN | apply below_drew1) | exact HB.out)⟩⟩
            · rw [if_neg c15] at H
              have c15b0 : ((Go.bits .and .i64 (ji14) 1) == 1) = false := beq_eq_false_iff_ne.mpr c15
              have c15b1 : ((Go.bits .and .i64 (ji14) 1) != 1) = true := bne_iff_ne.mpr c15
              have H' := Aside0.mk H
              clear H
              go_wp2
              go_roundg k1
              case measure => have := HK1.out; omega
              case rel => exact ⟨(x7_1), (wrap64 (x11_1 + 1)), (by first | rfl | (simp; done) | (simp [*]; done)), (by first | rfl | (simp; done) | (simp [*]; done)), H', ⟨by have := HK1.out; omega⟩, ⟨by repeat (first | (with_reducible first | exact HB.out | apply below_alloc | apply pw_below_drewN | apply below_drew1) | exact HB.out)⟩⟩
          · rw [if_neg c13] at H
            exact absurd H (by simp)
        · rw [if_neg c11] at H
          have c11b0 : decide (x11_1 < 16) = false := decide_eq_false c11
          clear c11
          replace H := Option.bind_eq_some_iff.mp H
          obtain ⟨⟨t210, t211⟩, A170, H⟩ := H
          replace H : (if t211 = 5 then (some (t210.toList == ([] : List UInt8))) else (some false)) = some r := H
          have A17 := Aside0.mk A170
          clear A170
          by_cases c18 : t211 = 5
          · rw [if_pos c18] at H
            have c18b0 : (t211 == 5) = true := beq_iff_eq.mpr c18
            have c18b1 : (t211 != 5) = false := bne_eq_false_iff_eq.mpr c18
            clear c18
            obtain rfl := Option.some.inj H
            go_wp2_with (first | ((with_reducible refine gate_callee (f := 51) rfl ?_); refine goesL_ (some 46) rfl rfl Try.func51 (by kernel_rfl) rfl #[.string x7_1] rfl (by (try simp only [List.map_toArray, List.map_cons, List.map_nil]); first | done | rfl | (simp only [List.length_drop, List.length_take]; rfl)) ?_; (with_reducible refine (crc_Open.calls k1 x7_1 t210 t211 _ A17.out).mono ?_); rintro e w19 ⟨rfl, hb⟩; refine ⟨_, rfl, ?_⟩; have n0_ := Aside0.mk (below_step (by repeat (first | (with_reducible first | exact HB.out | apply below_alloc | apply pw_below_drewN | apply below_drew1) | exact HB.out)) hb); clear HB; have HB := n0_; clear n0_; (try clear hb); (try clear hb2); (try clear hk); (try clear hi)))
            go_ret
            exact ⟨by first | rfl | (simp [errW_none, errW_some] <;> rfl) | (simp [*, errW_none, errW_some] <;> rfl), by repeat (first | (with_reducible first | exact HB.out | apply below_alloc | apply pw_below_drewN | apply below_drew1) | exact HB.out)⟩
          · rw [if_neg c18] at H
            have c18b0 : (t211 == 5) = false := beq_eq_false_iff_ne.mpr c18
            have c18b1 : (t211 != 5) = true := bne_iff_ne.mpr c18
            obtain rfl := Option.some.inj H
            go_wp2_with (first | ((with_reducible refine gate_callee (f := 51) rfl ?_); refine goesL_ (some 46) rfl rfl Try.func51 (by kernel_rfl) rfl #[.string x7_1] rfl (by (try simp only [List.map_toArray, List.map_cons, List.map_nil]); first | done | rfl | (simp only [List.length_drop, List.length_take]; rfl)) ?_; (with_reducible refine (crc_Open.calls k1 x7_1 t210 t211 _ A17.out).mono ?_); rintro e w20 ⟨rfl, hb⟩; refine ⟨_, rfl, ?_⟩; have n0_ := Aside0.mk (below_step (by repeat (first | (with_reducible first | exact HB.out | apply below_alloc | apply pw_below_drewN | apply below_drew1) | exact HB.out)) hb); clear HB; have HB := n0_; clear n0_; (try clear hb); (try clear hb2); (try clear hk); (try clear hi)))
            go_ret
            exact ⟨by first | rfl | (simp [errW_none, errW_some] <;> rfl) | (simp [*, errW_none, errW_some] <;> rfl), by repeat (first | (with_reducible first | exact HB.out | apply below_alloc | apply pw_below_drewN | apply below_drew1) | exact HB.out)⟩
  · replace c5 := Bool.eq_false_iff.mpr c5
    subst c5
    have H1 : (some false) = some r := by rw [if_neg (show ¬ (false = true) by decide)] at H; exact H
    clear H
    have H := H1
    clear H1
    obtain rfl := Option.some.inj H
    go_enter Try.func19, Try.ntmps19
    go_wp2_with (first | ((with_reducible refine gate_callee (f := 33) rfl ?_); refine goesL_ (some 14) rfl rfl Try.func33 (by kernel_rfl) rfl #[] rfl (by (try simp only [List.map_toArray, List.map_cons, List.map_nil]); first | done | rfl | (simp only [List.length_drop, List.length_take]; rfl)) ?_; (with_reducible refine (plaitinglaw2_known.calls k  false _ A4.out).mono ?_); rintro e w21 ⟨rfl, hb⟩; refine ⟨_, rfl, ?_⟩; have n0_ := Aside0.mk (below_step (by repeat (first | (with_reducible first | exact HB.out | apply below_alloc | apply pw_below_drewN | apply below_drew1) | exact HB.out)) hb); clear HB; have HB := n0_; clear n0_; (try clear hb); (try clear hb2); (try clear hk); (try clear hi)))
    go_ret
    exact ⟨by first | rfl | (simp [errW_none, errW_some] <;> rfl) | (simp [*, errW_none, errW_some] <;> rfl), by repeat (first | (with_reducible first | exact HB.out | apply below_alloc | apply pw_below_drewN | apply below_drew1) | exact HB.out)⟩

/-- THE ONE PURE STATEMENT of plaitinglaw2_CrcBurst: yours. -/
def plaitinglaw2_CrcBurst.Pure : Prop := ∀ (l0 : List Int) (a1 : Int) (a2 : Int), l0.length ≤ maxLen → l0.length * 8 ≤ 140737488351232 → (∀ x ∈ l0, (Lit.int .i64 x).wf = true) → (Lit.int .i64 a1).wf = true → (Lit.int .i64 a2).wf = true → ∃ k, plaitinglaw2_CrcBurst.f k l0 a1 a2 = some true
theorem plaitinglaw2_CrcBurst.walk (P : plaitinglaw2_CrcBurst.Pure) (a0 : Option Addr) (len0 cap0 : Nat) (z0 : List Int) (a1 : Int) (a2 : Int) (w : World) (w0 : (a0 = none ∧ len0 = 0 ∧ cap0 = 0 ∧ z0 = []) ∨ ∃ x, a0 = some x ∧ len0 ≤ cap0 ∧ cap0 ≤ maxLen ∧ z0.length = cap0 ∧ (∀ i, i < z0.length → w.cell? (x.add i) = some (.int .i64 (z0.getD i 0))) ∧ ∀ n ∈ z0, (Lit.int .i64 n).wf = true) (y0 : len0 * 8 ≤ 140737488351232) (w1 : (Lit.int .i64 a1).wf = true) (w2 : (Lit.int .i64 a2).wf = true) :
    Calls Try.prog 19 #[.slice a0 len0 cap0, .int .i64 a1, .int .i64 a2] w fun e w' => e = .returned (.bool true) ∧ Below w.heap.size w w' := by
  obtain ⟨l0, rfl, hr0, hm0, hw0, hc0⟩ := ReadsInt.ofRowC w0
  obtain ⟨k, h⟩ := P l0 a1 a2 hm0 y0 hw0 w1 w2
  refine (plaitinglaw2_CrcBurst.calls k _ _ l0 a1 a2 true w (Kd.C_of_reads (d := (0 : Int)) (h1 := fun _ => rfl) hr0) hc0 h).mono ?_
  rintro e w' ⟨rfl, hd⟩
  exact ⟨rfl, hd⟩

end Go.Proofs.Ytnggjnhfdjjphaa.PTwo
