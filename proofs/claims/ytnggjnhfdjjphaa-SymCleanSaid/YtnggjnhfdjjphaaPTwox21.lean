-- Written by the session's own program (wip/gen).
import Derived.Test.YtnggjnhfdjjphaaPTwox0
import Derived.Test.YtnggjnhfdjjphaaPTwox8
import Derived.Test.YtnggjnhfdjjphaaPTwox12
import Derived.Test.YtnggjnhfdjjphaaPTwox14
import Derived.Test.YtnggjnhfdjjphaaPTwox20
namespace Go.Proofs.Ytnggjnhfdjjphaa.PTwo
open Go.RowKit Go.Proofs.YtnggjnhfdjjphaaW.PrintWords Go.Proofs.YtnggjnhfdjjphaaW.PrintLast Go.Proofs.YtnggjnhfdjjphaaW.PrintMore
attribute [local go_sem] max2_int min2_int max_two min_two max_three min_three max_four min_four   -- for this text's walks alone
set_option linter.unusedVariables false
set_option linter.unusedSimpArgs false

/-! ### plaitinglaw1_SymClean: function 9 -/
def plaitinglaw1_SymClean.l0 : Nat → List Int → ByteArray → ByteArray → Int → Option (Bool)
  | 0, _, _, _, _ => none
  | k + 1, x0, x1, x5, x6 => if x6 < (x5.size : Int) then (if 0 ≤ x6 then (if (bt x5 x6) = 48 then (plaitinglaw1_SymClean.l0 k x0 x1 x5 (wrap64 (x6 + 1))) else (if (bt x5 x6) = 49 then (plaitinglaw1_SymClean.l0 k x0 x1 x5 (wrap64 (x6 + 1))) else (if (bt x5 x6) = 35 then (if (wrap64 (x6 + 1)) < (x5.size : Int) then (some false) else (plaitinglaw1_SymClean.l0 k x0 x1 x5 (wrap64 (x6 + 1)))) else (some false)))) else (none)) else ((plaitinglaw1_Text.f k x0).bind fun t228 => (if t228.size + 1 ≤ 9223372036854775807 then ((sym_Clean.f (t228 ++ (⟨#[46]⟩ : ByteArray))).bind fun t229 => ((sym_Clean.f x5).bind fun t230 => (if t230.toList = x5.toList then (if t229.size + 1 ≤ 9223372036854775807 then (if (t229 ++ (⟨#[35]⟩ : ByteArray)).size + x1.size ≤ 9223372036854775807 then ((sym_Clean.f ((t229 ++ (⟨#[35]⟩ : ByteArray)) ++ x1)).bind fun t231 => ((plaitingref1_Clean.f k (t229 ++ (⟨#[35]⟩ : ByteArray))).bind fun t232 => (if t231.toList = t232.toList then ((sym_Whole.f x5).bind fun t233 => (if x5.toList = ([] : List UInt8) then (some (t233 == false)) else (if 0 ≤ (wrap64 ((x5.size : Int) - 1)) then (if (wrap64 ((x5.size : Int) - 1)) < (x5.size : Int) then (some (t233 == ((bt x5 (wrap64 ((x5.size : Int) - 1))) == 35))) else (none)) else (none)))) else (some false)))) else (none)) else (none)) else (some false)))) else (none)))
def plaitinglaw1_SymClean.f (k : Nat) (l0 : List Int) (a1 : ByteArray) : Option (Bool) := (plaitinglaw1_known.f k).bind fun t225 => (if t225 = true then (if (a1.size : Int) > 100 then (some true) else ((plaitinglaw1_Text.f k l0).bind fun t226 => (if t226.size + a1.size ≤ 9223372036854775807 then ((sym_Clean.f (t226 ++ a1)).bind fun t227 => (plaitinglaw1_SymClean.l0 k l0 a1 t227 0)) else (none)))) else (some false))
theorem plaitinglaw1_SymClean.mono_l : ∀ k, (∀ y0 y1 y2 y3, LeO (plaitinglaw1_SymClean.l0 k y0 y1 y2 y3) (plaitinglaw1_SymClean.l0 (k + 1) y0 y1 y2 y3))
  | 0 => fun _ _ _ _ r h => by simp [plaitinglaw1_SymClean.l0] at h
  | k + 1 => by
    have ih0 := plaitinglaw1_SymClean.mono_l k
    · intro y0 y1 y2 y3
      unfold plaitinglaw1_SymClean.l0
      repeat' first
      | (with_reducible exact ih0 _ _ _ _)
      | (with_reducible exact plaitinglaw1_Text.mono _ _)
      | (with_reducible exact plaitinglaw1_known.mono _)
      | (with_reducible exact plaitingref1_Clean.mono _ _)
      | (with_reducible exact LeO.refl _)
      | (with_reducible exact LeO.none _)
      | (with_reducible refine LeO.ite ?_ ?_)
      | (with_reducible refine LeO.bind ?_ (fun _ => ?_))
      | exact ih0 _ _ _ _
      | exact plaitinglaw1_Text.mono _ _
      | exact plaitinglaw1_known.mono _
      | exact plaitingref1_Clean.mono _ _
      | exact LeO.none _
      | refine LeO.ite ?_ ?_
      | refine LeO.bind ?_ (fun _ => ?_)
theorem plaitinglaw1_SymClean.mono : ∀ a0 a1 k, LeO (plaitinglaw1_SymClean.f k a0 a1) (plaitinglaw1_SymClean.f (k + 1) a0 a1) := by
  intro a0 a1 k
  have ih0 := plaitinglaw1_SymClean.mono_l k
  unfold plaitinglaw1_SymClean.f
  repeat' first
      | (with_reducible exact ih0 _ _ _ _)
      | (with_reducible exact plaitinglaw1_Text.mono _ _)
      | (with_reducible exact plaitinglaw1_known.mono _)
      | (with_reducible exact plaitingref1_Clean.mono _ _)
      | (with_reducible exact LeO.refl _)
      | (with_reducible exact LeO.none _)
      | (with_reducible refine LeO.ite ?_ ?_)
      | (with_reducible refine LeO.bind ?_ (fun _ => ?_))
      | exact ih0 _ _ _ _
      | exact plaitinglaw1_Text.mono _ _
      | exact plaitinglaw1_known.mono _
      | exact plaitingref1_Clean.mono _ _
      | exact LeO.none _
      | refine LeO.ite ?_ ?_
      | refine LeO.bind ?_ (fun _ => ?_)
set_option maxHeartbeats 8000000 in
set_option maxRecDepth 100000 in
theorem plaitinglaw1_SymClean.calls (k : Nat) (A0 : Option Addr) (c0 : Nat) (l0 : List Int) (a1 : ByteArray) (r : Bool) (w : World) (hr0 : Kd.C (Kd.int .i64) w A0 l0.length l0) (hc0 : l0.length ≤ c0) (h : plaitinglaw1_SymClean.f k l0 a1 = some r) :
    Calls Try.prog 9 #[.slice A0 l0.length c0, .string a1] w fun e w' => e = .returned (.bool r) ∧ Below w.heap.size w w' := by
  have HR0 := Aside0.mk hr0
  have HC0 := Aside0.mk hc0
  clear hr0 hc0
  have HB := Aside0.mk (Below.refl w.heap.size w)
  have H : ((plaitinglaw1_known.f k).bind fun t225 => (if t225 = true then (if (a1.size : Int) > 100 then (some true) else ((plaitinglaw1_Text.f k l0).bind fun t226 => (if t226.size + a1.size ≤ 9223372036854775807 then ((sym_Clean.f (t226 ++ a1)).bind fun t227 => (plaitinglaw1_SymClean.l0 k l0 a1 t227 0)) else (none)))) else (some false))) = some r := h
  clear h
  replace H := Option.bind_eq_some_iff.mp H
  obtain ⟨t225, A30, H⟩ := H
  replace H : (if t225 = true then (if (a1.size : Int) > 100 then (some true) else ((plaitinglaw1_Text.f k l0).bind fun t226 => (if t226.size + a1.size ≤ 9223372036854775807 then ((sym_Clean.f (t226 ++ a1)).bind fun t227 => (plaitinglaw1_SymClean.l0 k l0 a1 t227 0)) else (none)))) else (some false)) = some r := H
  have A3 := Aside0.mk A30
  clear A30
  by_cases c4 : t225 = true
  · subst c4
    have H1 : (if (a1.size : Int) > 100 then (some true) else ((plaitinglaw1_Text.f k l0).bind fun t226 => (if t226.size + a1.size ≤ 9223372036854775807 then ((sym_Clean.f (t226 ++ a1)).bind fun t227 => (plaitinglaw1_SymClean.l0 k l0 a1 t227 0)) else (none)))) = some r := by rw [if_pos rfl] at H; exact H
    clear H
    have H := H1
    clear H1
    by_cases c5 : (a1.size : Int) > 100
    · rw [if_pos c5] at H
      have c5b0 : decide (100 < (a1.size : Int)) = true := decide_eq_true c5
      have c5b1 : decide (100 < a1.size) = true := decide_eq_true (by omega)
      clear c5
      obtain rfl := Option.some.inj H
      go_enter Try.func9, Try.ntmps9
      go_wp2_with (first | ((with_reducible refine gate_callee (f := 37) rfl ?_); refine goesL_ (some 8) rfl rfl Try.func37 (by kernel_rfl) rfl #[] rfl (by (try simp only [List.map_toArray, List.map_cons, List.map_nil]); first | done | rfl | (simp only [List.length_drop, List.length_take]; rfl)) ?_; (with_reducible refine (plaitinglaw1_known.calls k  true _ A3.out).mono ?_); rintro e w6 ⟨rfl, hb⟩; refine ⟨_, rfl, ?_⟩; have n0_ := Aside0.mk (below_step (by repeat (first | (with_reducible first | exact HB.out | apply below_alloc | apply pw_below_drewN | apply below_drew1) | exact HB.out)) hb); clear HB; have HB := n0_; clear n0_; (try clear hb); (try clear hb2); (try clear hk); (try clear hi)))
      go_ret
      exact ⟨by first | rfl | (simp [errW_none, errW_some] <;> rfl) | (simp [*, errW_none, errW_some] <;> rfl), by repeat (first | (with_reducible first | exact HB.out | apply below_alloc | apply pw_below_drewN | apply below_drew1) | exact HB.out)⟩
    · rw [if_neg c5] at H
      have c5b0 : decide (100 < (a1.size : Int)) = false := decide_eq_false c5
      have c5b1 : decide (100 < a1.size) = false := decide_eq_false (by omega)
      clear c5
      replace H := Option.bind_eq_some_iff.mp H
      obtain ⟨t226, A70, H⟩ := H
      replace H : (if t226.size + a1.size ≤ 9223372036854775807 then ((sym_Clean.f (t226 ++ a1)).bind fun t227 => (plaitinglaw1_SymClean.l0 k l0 a1 t227 0)) else (none)) = some r := H
      have A7 := Aside0.mk A70
      clear A70
      by_cases c8 : t226.size + a1.size ≤ 9223372036854775807
      · rw [if_pos c8] at H
        have c8b0 := eq_true c8
        have c8b1 : decide (t226.size + a1.size ≤ 9223372036854775807) = true := decide_eq_true c8
        try have c8b2 : (9223372036854775807 < t226.size + a1.size) = False := eq_false (Nat.not_lt.2 c8)
        replace H := Option.bind_eq_some_iff.mp H
        obtain ⟨t227, A90, H⟩ := H
        replace H : (plaitinglaw1_SymClean.l0 k l0 a1 t227 0) = some r := H
        have A9 := Aside0.mk A90
        clear A90
        have H' := Aside0.mk H
        clear H
        go_enter Try.func9, Try.ntmps9
        go_wp2_with (first | ((with_reducible refine gate_callee (f := 37) rfl ?_); refine goesL_ (some 8) rfl rfl Try.func37 (by kernel_rfl) rfl #[] rfl (by (try simp only [List.map_toArray, List.map_cons, List.map_nil]); first | done | rfl | (simp only [List.length_drop, List.length_take]; rfl)) ?_; (with_reducible refine (plaitinglaw1_known.calls k  true _ A3.out).mono ?_); rintro e w10 ⟨rfl, hb⟩; refine ⟨_, rfl, ?_⟩; have n0_ := Aside0.mk (below_step (by repeat (first | (with_reducible first | exact HB.out | apply below_alloc | apply pw_below_drewN | apply below_drew1) | exact HB.out)) hb); clear HB; have HB := n0_; clear n0_; (try clear hb); (try clear hb2); (try clear hk); (try clear hi)) | ((with_reducible refine gate_callee (f := 39) rfl ?_); refine goesL_ (some 14) rfl rfl Try.func39 (by kernel_rfl) rfl #[.slice A0 l0.length c0] rfl (by (try simp only [List.map_toArray, List.map_cons, List.map_nil]); first | done | rfl | (simp only [List.length_drop, List.length_take]; rfl)) ?_; (with_reducible refine (plaitinglaw1_Text.calls k _ _ l0 t226 _ ?side1 ?side2 A7.out).mono ?_); (case side1 => repeat (first | exact (Kd.C_below HR0.out HB.out) | (with_reducible refine Kd.C_alloc ?_ _) | (with_reducible refine Kd.C_drewN ?_ _) | (with_reducible refine Kd.C_drew ?_))); (case side2 => exact HC0.out); rintro e w11 ⟨rfl, hb⟩; refine ⟨_, rfl, ?_⟩; have n0_ := Aside0.mk (below_step (by repeat (first | (with_reducible first | exact HB.out | apply below_alloc | apply pw_below_drewN | apply below_drew1) | exact HB.out)) hb); clear HB; have HB := n0_; clear n0_; (try clear hb); (try clear hb2); (try clear hk); (try clear hi)) | ((with_reducible refine gate_callee (f := 38) rfl ?_); refine goesL_ (some 17) rfl rfl Try.func38 (by kernel_rfl) rfl #[.string (t226 ++ a1)] rfl (by (try simp only [List.map_toArray, List.map_cons, List.map_nil]); first | done | rfl | (simp only [List.length_drop, List.length_take]; rfl)) ?_; (with_reducible refine (sym_Clean.calls (t226 ++ a1) t227 _ A9.out).mono ?_); rintro e w12 ⟨rfl, hb⟩; refine ⟨_, rfl, ?_⟩; have n0_ := Aside0.mk (below_step (by repeat (first | (with_reducible first | exact HB.out | apply below_alloc | apply pw_below_drewN | apply below_drew1) | exact HB.out)) hb); clear HB; have HB := n0_; clear n0_; (try clear hb); (try clear hb2); (try clear hk); (try clear hi)))
        go_loopg [6] k (fun kq v6 w' => ∃ (x6_1 : Int), v6 = .int .i64 x6_1 ∧ Aside0 (plaitinglaw1_SymClean.l0 kq l0 a1 t227 x6_1 = some r) ∧ Aside0 (kq ≤ k) ∧ Aside0 (Below w.heap.size w w'))
        case atStart => exact ⟨(0), (by first | rfl | (simp; done) | (simp [*]; done)), H', ⟨Nat.le_refl _⟩, ⟨by repeat (first | (with_reducible first | exact HB.out | apply below_alloc | apply pw_below_drewN | apply below_drew1) | exact HB.out)⟩⟩
        case round =>
          clear H'
          try clear p2
          try clear c3
          try clear c4
          try clear c5
          try clear c5b0
          try clear c5b1
          try clear c8
          try clear c8b0
          try clear c8b1
          try clear c8b2
          try clear c9
          obtain ⟨x6_1, rfl, HA, HK1, HB⟩ := hrel
          cases gk with
          | zero => exact absurd HA.out (by simp [plaitinglaw1_SymClean.l0])
          | succ k1 =>
            have H := HA.out
            clear HA
            simp only [plaitinglaw1_SymClean.l0] at H
            by_cases c13 : x6_1 < (t227.size : Int)
            · rw [if_pos c13] at H
              have c13b0 : decide (x6_1 < (t227.size : Int)) = true := decide_eq_true c13
              clear c13
              by_cases c14 : 0 ≤ x6_1
              · rw [if_pos c14] at H
                have c14b0 : decide (0 ≤ x6_1) = true := decide_eq_true c14
                clear c14
                by_cases c16 : (bt t227 x6_1) = 48
                · rw [if_pos c16] at H
                  have c16b0 : ((bt t227 x6_1) == 48) = true := beq_iff_eq.mpr c16
                  have c16b1 : ((bt t227 x6_1) != 48) = false := bne_eq_false_iff_eq.mpr c16
                  clear c16
                  have H' := Aside0.mk H
                  clear H
                  have p15 : 0 ≤ (x6_1 : Int) := of_decide_eq_true (by first | (with_reducible assumption) | assumption)
                  have q15 : x6_1 < (t227.size : Int) := of_decide_eq_true (by first | (with_reducible assumption) | assumption)
                  have hx15 := bt_at t227 x6_1
                  replace p15 := eq_true p15
                  replace q15 := eq_true q15
                  go_wp2
                  go_roundg k1
                  case measure => have := HK1.out; omega
                  case rel => exact ⟨(wrap64 (x6_1 + 1)), (by first | rfl | (simp; done) | (simp [*]; done)), H', ⟨by have := HK1.out; omega⟩, ⟨by repeat (first | (with_reducible first | exact HB.out | apply below_alloc | apply pw_below_drewN | apply below_drew1) | exact HB.out)⟩⟩
                · rw [if_neg c16] at H
                  have c16b0 : ((bt t227 x6_1) == 48) = false := beq_eq_false_iff_ne.mpr c16
                  have c16b1 : ((bt t227 x6_1) != 48) = true := bne_iff_ne.mpr c16
                  by_cases c18 : (bt t227 x6_1) = 49
                  · rw [if_pos c18] at H
                    have c18b0 : ((bt t227 x6_1) == 49) = true := beq_iff_eq.mpr c18
                    have c18b1 : ((bt t227 x6_1) != 49) = false := bne_eq_false_iff_eq.mpr c18
                    clear c18
                    have H' := Aside0.mk H
                    clear H
                    have p15 : 0 ≤ (x6_1 : Int) := of_decide_eq_true (by first | (with_reducible assumption) | assumption)
                    have q15 : x6_1 < (t227.size : Int) := of_decide_eq_true (by first | (with_reducible assumption) | assumption)
                    have hx15 := bt_at t227 x6_1
                    replace p15 := eq_true p15
                    replace q15 := eq_true q15
                    have p17 : 0 ≤ (x6_1 : Int) := of_decide_eq_true (by first | (with_reducible assumption) | assumption)
                    have q17 : x6_1 < (t227.size : Int) := of_decide_eq_true (by first | (with_reducible assumption) | assumption)
                    have hx17 := bt_at t227 x6_1
                    replace p17 := eq_true p17
                    replace q17 := eq_true q17
                    go_wp2
                    go_roundg k1
                    case measure => have := HK1.out; omega
                    case rel => exact ⟨(wrap64 (x6_1 + 1)), (by first | rfl | (simp; done) | (simp [*]; done)), H', ⟨by have := HK1.out; omega⟩, ⟨by repeat (first | (with_reducible first | exact HB.out | apply below_alloc | apply pw_below_drewN | apply below_drew1) | exact HB.out)⟩⟩
                  · rw [if_neg c18] at H
                    have c18b0 : ((bt t227 x6_1) == 49) = false := beq_eq_false_iff_ne.mpr c18
                    have c18b1 : ((bt t227 x6_1) != 49) = true := bne_iff_ne.mpr c18
                    by_cases c20 : (bt t227 x6_1) = 35
                    · rw [if_pos c20] at H
                      have c20b0 : ((bt t227 x6_1) == 35) = true := beq_iff_eq.mpr c20
                      have c20b1 : ((bt t227 x6_1) != 35) = false := bne_eq_false_iff_eq.mpr c20
                      clear c20
                      by_cases c21 : (wrap64 (x6_1 + 1)) < (t227.size : Int)
                      · rw [if_pos c21] at H
                        have c21b0 : decide ((wrap64 (x6_1 + 1)) < (t227.size : Int)) = true := decide_eq_true c21
                        clear c21
                        obtain rfl := Option.some.inj H
                        have p15 : 0 ≤ (x6_1 : Int) := of_decide_eq_true (by first | (with_reducible assumption) | assumption)
                        have q15 : x6_1 < (t227.size : Int) := of_decide_eq_true (by first | (with_reducible assumption) | assumption)
                        have hx15 := bt_at t227 x6_1
                        replace p15 := eq_true p15
                        replace q15 := eq_true q15
                        have p17 : 0 ≤ (x6_1 : Int) := of_decide_eq_true (by first | (with_reducible assumption) | assumption)
                        have q17 : x6_1 < (t227.size : Int) := of_decide_eq_true (by first | (with_reducible assumption) | assumption)
                        have hx17 := bt_at t227 x6_1
                        replace p17 := eq_true p17
                        replace q17 := eq_true q17
                        have p19 : 0 ≤ (x6_1 : Int) := of_decide_eq_true (by first | (with_reducible assumption) | assumption)
                        have q19 : x6_1 < (t227.size : Int) := of_decide_eq_true (by first | (with_reducible assumption) | assumption)
                        have hx19 := bt_at t227 x6_1
                        replace p19 := eq_true p19
                        replace q19 := eq_true q19
                        go_wp2
                        go_ret
                        exact ⟨by first | rfl | (simp [errW_none, errW_some] <;> rfl) | (simp [*, errW_none, errW_some] <;> rfl), by repeat (first | (with_reducible first | exact HB.out | apply below_alloc | apply pw_below_drewN | apply below_drew1) | exact HB.out)⟩
                      · rw [if_neg c21] at H
                        have c21b0 : decide ((wrap64 (x6_1 + 1)) < (t227.size : Int)) = false := decide_eq_false c21
                        clear c21
                        have H' := Aside0.mk H
                        clear H
                        have p15 : 0 ≤ (x6_1 : Int) := of_decide_eq_true (by first | (with_reducible assumption) | assumption)
                        have q15 : x6_1 < (t227.size : Int) := of_decide_eq_true (by first | (with_reducible assumption) | assumption)
                        have hx15 := bt_at t227 x6_1
                        replace p15 := eq_true p15
                        replace q15 := eq_true q15
                        have p17 : 0 ≤ (x6_1 : Int) := of_decide_eq_true (by first | (with_reducible assumption) | assumption)
                        have q17 : x6_1 < (t227.size : Int) := of_decide_eq_true (by first | (with_reducible assumption) | assumption)
                        have hx17 := bt_at t227 x6_1
                        replace p17 := eq_true p17
                        replace q17 := eq_true q17
                        have p19 : 0 ≤ (x6_1 : Int) := of_decide_eq_true (by first | (with_reducible assumption) | assumption)
                        have q19 : x6_1 < (t227.size : Int) := of_decide_eq_true (by first | (with_reducible assumption) | assumption)
                        have hx19 := bt_at t227 x6_1
                        replace p19 := eq_true p19
                        replace q19 := eq_true q19
                        go_wp2
                        go_roundg k1
                        case measure => have := HK1.out; omega
                        case rel => exact ⟨(wrap64 (x6_1 + 1)), (by first | rfl | (simp; done) | (simp [*]; done)), H', ⟨by have := HK1.out; omega⟩, ⟨by repeat (first | (with_reducible first | exact HB.out | apply below_alloc | apply pw_below_drewN | apply below_drew1) | exact HB.out)⟩⟩
                    · rw [if_neg c20] at H
                      have c20b0 : ((bt t227 x6_1) == 35) = false := beq_eq_false_iff_ne.mpr c20
                      have c20b1 : ((bt t227 x6_1) != 35) = true := bne_iff_ne.mpr c20
                      obtain rfl := Option.some.inj H
                      have p15 : 0 ≤ (x6_1 : Int) := of_decide_eq_true (by first | (with_reducible assumption) | assumption)
                      have q15 : x6_1 < (t227.size : Int) := of_decide_eq_true (by first | (with_reducible assumption) | assumption)
                      have hx15 := bt_at t227 x6_1
                      replace p15 := eq_true p15
                      replace q15 := eq_true q15
                      have p17 : 0 ≤ (x6_1 : Int) := of_decide_eq_true (by first | (with_reducible assumption) | assumption)
                      have q17 : x6_1 < (t227.size : Int) := of_decide_eq_true (by first | (with_reducible assumption) | assumption)
                      have hx17 := bt_at t227 x6_1
                      replace p17 := eq_true p17
                      replace q17 := eq_true q17
                      have p19 : 0 ≤ (x6_1 : Int) := of_decide_eq_true (by first | (with_reducible assumption) | assumption)
                      have q19 : x6_1 < (t227.size : Int) := of_decide_eq_true (by first | (with_reducible assumption) | assumption)
                      have hx19 := bt_at t227 x6_1
                      replace p19 := eq_true p19
                      replace q19 := eq_true q19
                      go_wp2
                      go_ret
                      exact ⟨by first | rfl | (simp [errW_none, errW_some] <;> rfl) | (simp [*, errW_none, errW_some] <;> rfl), by repeat (first | (with_reducible first | exact HB.out | apply below_alloc | apply pw_below_drewN | apply below_drew1) | exact HB.out)⟩
              · rw [if_neg c14] at H
                exact absurd H (by simp)
            · rw [if_neg c13] at H
              have c13b0 : decide (x6_1 < (t227.size : Int)) = false := decide_eq_false c13
              clear c13
              replace H := Option.bind_eq_some_iff.mp H
              obtain ⟨t228, A220, H⟩ := H
              replace H : (if t228.size + 1 ≤ 9223372036854775807 then ((sym_Clean.f (t228 ++ (⟨#[46]⟩ : ByteArray))).bind fun t229 => ((sym_Clean.f t227).bind fun t230 => (if t230.toList = t227.toList then (if t229.size + 1 ≤ 9223372036854775807 then (if (t229 ++ (⟨#[35]⟩ : ByteArray)).size + a1.size ≤ 9223372036854775807 then ((sym_Clean.f ((t229 ++ (⟨#[35]⟩ : ByteArray)) ++ a1)).bind fun t231 => ((plaitingref1_Clean.f k1 (t229 ++ (⟨#[35]⟩ : ByteArray))).bind fun t232 => (if t231.toList = t232.toList then ((sym_Whole.f t227).bind fun t233 => (if t227.toList = ([] : List UInt8) then (some (t233 == false)) else (if 0 ≤ (wrap64 ((t227.size : Int) - 1)) then (if (wrap64 ((t227.size : Int) - 1)) < (t227.size : Int) then (some (t233 == ((bt t227 (wrap64 ((t227.size : Int) - 1))) == 35))) else (none)) else (none)))) else (some false)))) else (none)) else (none)) else (some false)))) else (none)) = some r := H
              have A22 := Aside0.mk A220
              clear A220
              by_cases c23 : t228.size + 1 ≤ 9223372036854775807
              · rw [if_pos c23] at H
                have c23b0 := eq_true c23
                have c23b1 : decide (t228.size + 1 ≤ 9223372036854775807) = true := decide_eq_true c23
                try have c23b2 : (9223372036854775807 < t228.size + 1) = False := eq_false (Nat.not_lt.2 c23)
                replace H := Option.bind_eq_some_iff.mp H
                obtain ⟨t229, A240, H⟩ := H
                replace H : ((sym_Clean.f t227).bind fun t230 => (if t230.toList = t227.toList then (if t229.size + 1 ≤ 9223372036854775807 then (if (t229 ++ (⟨#[35]⟩ : ByteArray)).size + a1.size ≤ 9223372036854775807 then ((sym_Clean.f ((t229 ++ (⟨#[35]⟩ : ByteArray)) ++ a1)).bind fun t231 => ((plaitingref1_Clean.f k1 (t229 ++ (⟨#[35]⟩ : ByteArray))).bind fun t232 => (if t231.toList = t232.toList then ((sym_Whole.f t227).bind fun t233 => (if t227.toList = ([] : List UInt8) then (some (t233 == false)) else (if 0 ≤ (wrap64 ((t227.size : Int) - 1)) then (if (wrap64 ((t227.size : Int) - 1)) < (t227.size : Int) then (some (t233 == ((bt t227 (wrap64 ((t227.size : Int) - 1))) == 35))) else (none)) else (none)))) else (some false)))) else (none)) else (none)) else (some false))) = some r := H
                have A24 := Aside0.mk A240
                clear A240
                replace H := Option.bind_eq_some_iff.mp H
                obtain ⟨t230, A250, H⟩ := H
                replace H : (if t230.toList = t227.toList then (if t229.size + 1 ≤ 9223372036854775807 then (if (t229 ++ (⟨#[35]⟩ : ByteArray)).size + a1.size ≤ 9223372036854775807 then ((sym_Clean.f ((t229 ++ (⟨#[35]⟩ : ByteArray)) ++ a1)).bind fun t231 => ((plaitingref1_Clean.f k1 (t229 ++ (⟨#[35]⟩ : ByteArray))).bind fun t232 => (if t231.toList = t232.toList then ((sym_Whole.f t227).bind fun t233 => (if t227.toList = ([] : List UInt8) then (some (t233 == false)) else (if 0 ≤ (wrap64 ((t227.size : Int) - 1)) then (if (wrap64 ((t227.size : Int) - 1)) < (t227.size : Int) then (some (t233 == ((bt t227 (wrap64 ((t227.size : Int) - 1))) == 35))) else (none)) else (none)))) else (some false)))) else (none)) else (none)) else (some false)) = some r := H
                have A25 := Aside0.mk A250
                clear A250
                by_cases c26 : t230.toList = t227.toList
                · rw [if_pos c26] at H
                  have c26b0 : (t230.toList == t227.toList) = true := beq_iff_eq.mpr c26
                  have c26b1 : (t230.toList != t227.toList) = false := bne_eq_false_iff_eq.mpr c26
                  clear c26
                  by_cases c27 : t229.size + 1 ≤ 9223372036854775807
                  · rw [if_pos c27] at H
                    have c27b0 := eq_true c27
                    have c27b1 : decide (t229.size + 1 ≤ 9223372036854775807) = true := decide_eq_true c27
                    try have c27b2 : (9223372036854775807 < t229.size + 1) = False := eq_false (Nat.not_lt.2 c27)
                    by_cases c28 : (t229 ++ (⟨#[35]⟩ : ByteArray)).size + a1.size ≤ 9223372036854775807
                    · rw [if_pos c28] at H
                      have c28b0 := eq_true c28
                      have c28b1 : decide ((t229 ++ (⟨#[35]⟩ : ByteArray)).size + a1.size ≤ 9223372036854775807) = true := decide_eq_true c28
                      try have c28b2 : (9223372036854775807 < (t229 ++ (⟨#[35]⟩ : ByteArray)).size + a1.size) = False := eq_false (Nat.not_lt.2 c28)
                      (try (have c28b3 := c28; simp only [ByteArray.size_append] at c28b3))
                      (try (have c28b4 := c28; simp only [ByteArray.size_append, ByteArray.size_extract] at c28b4))
                      (try (have c28b5 : t229.size + 1 + a1.size ≤ 9223372036854775807 := by (have h_ := c28; simp only [ByteArray.size_append, ByteArray.size_extract] at h_; simp only [decide_eq_true_eq] at *; omega)))
                      (try (have c28b6 : (9223372036854775807 < t229.size + 1 + a1.size) = False := eq_false (Nat.not_lt.2 c28b5)))
                      replace H := Option.bind_eq_some_iff.mp H
                      obtain ⟨t231, A290, H⟩ := H
                      replace H : ((plaitingref1_Clean.f k1 (t229 ++ (⟨#[35]⟩ : ByteArray))).bind fun t232 => (if t231.toList = t232.toList then ((sym_Whole.f t227).bind fun t233 => (if t227.toList = ([] : List UInt8) then (some (t233 == false)) else (if 0 ≤ (wrap64 ((t227.size : Int) - 1)) then (if (wrap64 ((t227.size : Int) - 1)) < (t227.size : Int) then (some (t233 == ((bt t227 (wrap64 ((t227.size : Int) - 1))) == 35))) else (none)) else (none)))) else (some false))) = some r := H
                      have A29 := Aside0.mk A290
                      clear A290
                      replace H := Option.bind_eq_some_iff.mp H
                      obtain ⟨t232, A300, H⟩ := H
                      replace H : (if t231.toList = t232.toList then ((sym_Whole.f t227).bind fun t233 => (if t227.toList = ([] : List UInt8) then (some (t233 == false)) else (if 0 ≤ (wrap64 ((t227.size : Int) - 1)) then (if (wrap64 ((t227.size : Int) - 1)) < (t227.size : Int) then (some (t233 == ((bt t227 (wrap64 ((t227.size : Int) - 1))) == 35))) else (none)) else (none)))) else (some false)) = some r := H
                      have A30 := Aside0.mk A300
                      clear A300
                      by_cases c31 : t231.toList = t232.toList
                      · rw [if_pos c31] at H
                        have c31b0 : (t231.toList == t232.toList) = true := beq_iff_eq.mpr c31
                        have c31b1 : (t231.toList != t232.toList) = false := bne_eq_false_iff_eq.mpr c31
                        clear c31
                        replace H := Option.bind_eq_some_iff.mp H
                        obtain ⟨t233, A320, H⟩ := H
                        replace H : (if t227.toList = ([] : List UInt8) then (some (t233 == false)) else (if 0 ≤ (wrap64 ((t227.size : Int) - 1)) then (if (wrap64 ((t227.size : Int) - 1)) < (t227.size : Int) then (some (t233 == ((bt t227 (wrap64 ((t227.size : Int) - 1))) == 35))) else (none)) else (none))) = some r := H
                        have A32 := Aside0.mk A320
                        clear A320
                        by_cases c33 : t227.toList = ([] : List UInt8)
                        · rw [if_pos c33] at H
                          have c33b0 : (t227.toList == ([] : List UInt8)) = true := beq_iff_eq.mpr c33
                          have c33b1 : (t227.toList != ([] : List UInt8)) = false := bne_eq_false_iff_eq.mpr c33
                          clear c33
                          obtain rfl := Option.some.inj H
                          go_wp2_with (first | ((with_reducible refine gate_callee (f := 39) rfl ?_); refine goesL_ (some 48) rfl rfl Try.func39 (by kernel_rfl) rfl #[.slice A0 l0.length c0] rfl (by (try simp only [List.map_toArray, List.map_cons, List.map_nil]); first | done | rfl | (simp only [List.length_drop, List.length_take]; rfl)) ?_; (with_reducible refine (plaitinglaw1_Text.calls k1 _ _ l0 t228 _ ?side1 ?side2 A22.out).mono ?_); (case side1 => repeat (first | exact (Kd.C_below HR0.out HB.out) | (with_reducible refine Kd.C_alloc ?_ _) | (with_reducible refine Kd.C_drewN ?_ _) | (with_reducible refine Kd.C_drew ?_))); (case side2 => exact HC0.out); rintro e w34 ⟨rfl, hb⟩; refine ⟨_, rfl, ?_⟩; have n0_ := Aside0.mk (below_step (by repeat (first | (with_reducible first | exact HB.out | apply below_alloc | apply pw_below_drewN | apply below_drew1) | exact HB.out)) hb); clear HB; have HB := n0_; clear n0_; (try clear hb); (try clear hb2); (try clear hk); (try clear hi)) | ((with_reducible refine gate_callee (f := 38) rfl ?_); refine goesL_ (some 50) rfl rfl Try.func38 (by kernel_rfl) rfl #[.string (t228 ++ (⟨#[46]⟩ : ByteArray))] rfl (by (try simp only [List.map_toArray, List.map_cons, List.map_nil]); first | done | rfl | (simp only [List.length_drop, List.length_take]; rfl)) ?_; (with_reducible refine (sym_Clean.calls (t228 ++ (⟨#[46]⟩ : ByteArray)) t229 _ A24.out).mono ?_); rintro e w35 ⟨rfl, hb⟩; refine ⟨_, rfl, ?_⟩; have n0_ := Aside0.mk (below_step (by repeat (first | (with_reducible first | exact HB.out | apply below_alloc | apply pw_below_drewN | apply below_drew1) | exact HB.out)) hb); clear HB; have HB := n0_; clear n0_; (try clear hb); (try clear hb2); (try clear hk); (try clear hi)) | ((with_reducible refine gate_callee (f := 38) rfl ?_); refine goesL_ (some 52) rfl rfl Try.func38 (by kernel_rfl) rfl #[.string t227] rfl (by (try simp only [List.map_toArray, List.map_cons, List.map_nil]); first | done | rfl | (simp only [List.length_drop, List.length_take]; rfl)) ?_; (with_reducible refine (sym_Clean.calls t227 t230 _ A25.out).mono ?_); rintro e w36 ⟨rfl, hb⟩; refine ⟨_, rfl, ?_⟩; have n0_ := Aside0.mk (below_step (by repeat (first | (with_reducible first | exact HB.out | apply below_alloc | apply pw_below_drewN | apply below_drew1) | exact HB.out)) hb); clear HB; have HB := n0_; clear n0_; (try clear hb); (try clear hb2); (try clear hk); (try clear hi)) | (go_at_call 38; (with_reducible refine (sym_Clean.calls ((t229 ++ (⟨#[35]⟩ : ByteArray)) ++ a1) t231 _ A29.out).mono ?_); rintro e w37 ⟨rfl, hb⟩; have n0_ := Aside0.mk (below_step (by repeat (first | (with_reducible first | exact HB.out | apply below_alloc | apply pw_below_drewN | apply below_drew1) | exact HB.out)) hb); clear HB; have HB := n0_; clear n0_; (try clear hb); (try clear hb2); (try clear hk); (try clear hi)) | (go_at_call 40; (with_reducible refine (plaitingref1_Clean.calls k1 (t229 ++ (⟨#[35]⟩ : ByteArray)) t232 _ A30.out).mono ?_); rintro e w' ⟨rfl, ⟨nd, rfl⟩⟩) | (go_at_call 41; (with_reducible refine (sym_Whole.calls t227 t233 _ A32.out).mono ?_); rintro e w38 ⟨rfl, hb⟩; have n0_ := Aside0.mk (below_step (by repeat (first | (with_reducible first | exact HB.out | apply below_alloc | apply pw_below_drewN | apply below_drew1) | exact HB.out)) hb); clear HB; have HB := n0_; clear n0_; (try clear hb); (try clear hb2); (try clear hk); (try clear hi)))
                          go_ret
                          exact ⟨by first | rfl | (simp [errW_none, errW_some] <;> rfl) | (simp [*, errW_none, errW_some] <;> rfl), by repeat (first | (with_reducible first | exact HB.out | apply below_alloc | apply pw_below_drewN | apply below_drew1) | exact HB.out)⟩
                        · rw [if_neg c33] at H
                          have c33b0 : (t227.toList == ([] : List UInt8)) = false := beq_eq_false_iff_ne.mpr c33
                          have c33b1 : (t227.toList != ([] : List UInt8)) = true := bne_iff_ne.mpr c33
                          obtain ⟨ji39, hji39⟩ : ∃ j_ : Int, (wrap64 ((t227.size : Int) - 1)) = j_ := ⟨_, rfl⟩
                          replace H : (if 0 ≤ (ji39) then (if (ji39) < (t227.size : Int) then (some (t233 == ((bt t227 (ji39)) == 35))) else (none)) else (none)) = some r := by first | (rw [hji39] at H; exact H) | (simp only [hji39] at H ⊢; exact H)
                          (try rw [hji39] at A22)
                          (try rw [hji39] at A24)
                          (try rw [hji39] at A25)
                          (try rw [hji39] at A29)
                          (try rw [hji39] at A30)
                          (try rw [hji39] at A32)
                          have hji39w : (IntKind.i64.wrap ((t227.size : Int) - 1)) = ji39 := (i64_w _).trans hji39
                          by_cases c40 : 0 ≤ (ji39)
                          · rw [if_pos c40] at H
                            have c40b0 : decide (0 ≤ (ji39)) = true := decide_eq_true c40
                            clear c40
                            by_cases c41 : (ji39) < (t227.size : Int)
                            · rw [if_pos c41] at H
                              have c41b0 : decide ((ji39) < (t227.size : Int)) = true := decide_eq_true c41
                              clear c41
                              obtain rfl := Option.some.inj H
                              go_wp2_with (first | ((with_reducible refine gate_callee (f := 39) rfl ?_); refine goesL_ (some 48) rfl rfl Try.func39 (by kernel_rfl) rfl #[.slice A0 l0.length c0] rfl (by (try simp only [List.map_toArray, List.map_cons, List.map_nil]); first | done | rfl | (simp only [List.length_drop, List.length_take]; rfl)) ?_; (with_reducible refine (plaitinglaw1_Text.calls k1 _ _ l0 t228 _ ?side1 ?side2 A22.out).mono ?_); (case side1 => repeat (first | exact (Kd.C_below HR0.out HB.out) | (with_reducible refine Kd.C_alloc ?_ _) | (with_reducible refine Kd.C_drewN ?_ _) | (with_reducible refine Kd.C_drew ?_))); (case side2 => exact HC0.out); rintro e w43 ⟨rfl, hb⟩; refine ⟨_, rfl, ?_⟩; have n0_ := Aside0.mk (below_step (by repeat (first | (with_reducible first | exact HB.out | apply below_alloc | apply pw_below_drewN | apply below_drew1) | exact HB.out)) hb); clear HB; have HB := n0_; clear n0_; (try clear hb); (try clear hb2); (try clear hk); (try clear hi)) | ((with_reducible refine gate_callee (f := 38) rfl ?_); refine goesL_ (some 50) rfl rfl Try.func38 (by kernel_rfl) rfl #[.string (t228 ++ (⟨#[46]⟩ : ByteArray))] rfl (by (try simp only [List.map_toArray, List.map_cons, List.map_nil]); first | done | rfl | (simp only [List.length_drop, List.length_take]; rfl)) ?_; (with_reducible refine (sym_Clean.calls (t228 ++ (⟨#[46]⟩ : ByteArray)) t229 _ A24.out).mono ?_); rintro e w44 ⟨rfl, hb⟩; refine ⟨_, rfl, ?_⟩; have n0_ := Aside0.mk (below_step (by repeat (first | (with_reducible first | exact HB.out | apply below_alloc | apply pw_below_drewN | apply below_drew1) | exact HB.out)) hb); clear HB; have HB := n0_; clear n0_; (try clear hb); (try clear hb2); (try clear hk); (try clear hi)) | ((with_reducible refine gate_callee (f := 38) rfl ?_); refine goesL_ (some 52) rfl rfl Try.func38 (by kernel_rfl) rfl #[.string t227] rfl (by (try simp only [List.map_toArray, List.map_cons, List.map_nil]); first | done | rfl | (simp only [List.length_drop, List.length_take]; rfl)) ?_; (with_reducible refine (sym_Clean.calls t227 t230 _ A25.out).mono ?_); rintro e w45 ⟨rfl, hb⟩; refine ⟨_, rfl, ?_⟩; have n0_ := Aside0.mk (below_step (by repeat (first | (with_reducible first | exact HB.out | apply below_alloc | apply pw_below_drewN | apply below_drew1) | exact HB.out)) hb); clear HB; have HB := n0_; clear n0_; (try clear hb); (try clear hb2); (try clear hk); (try clear hi)) | (go_at_call 38; (with_reducible refine (sym_Clean.calls ((t229 ++ (⟨#[35]⟩ : ByteArray)) ++ a1) t231 _ A29.out).mono ?_); rintro e w46 ⟨rfl, hb⟩; have n0_ := Aside0.mk (below_step (by repeat (first | (with_reducible first | exact HB.out | apply below_alloc | apply pw_below_drewN | apply below_drew1) | exact HB.out)) hb); clear HB; have HB := n0_; clear n0_; (try clear hb); (try clear hb2); (try clear hk); (try clear hi)) | (go_at_call 40; (with_reducible refine (plaitingref1_Clean.calls k1 (t229 ++ (⟨#[35]⟩ : ByteArray)) t232 _ A30.out).mono ?_); rintro e w' ⟨rfl, ⟨nd, rfl⟩⟩) | (go_at_call 41; (with_reducible refine (sym_Whole.calls t227 t233 _ A32.out).mono ?_); rintro e w47 ⟨rfl, hb⟩; have n0_ := Aside0.mk (below_step (by repeat (first | (with_reducible first | exact HB.out | apply below_alloc | apply pw_below_drewN | apply below_drew1) | exact HB.out)) hb); clear HB; have HB := n0_; clear n0_; (try clear hb); (try clear hb2); (try clear hk); (try clear hi); have p42 : 0 ≤ ((ji39) : Int) := of_decide_eq_true (by first | (with_reducible assumption) | assumption); have q42 : (ji39) < (t227.size : Int) := of_decide_eq_true (by first | (with_reducible assumption) | assumption); have hx42 := bt_at t227 (ji39); replace p42 := eq_true p42; replace q42 := eq_true q42))
                              go_ret
                              exact ⟨by first | rfl | (simp [errW_none, errW_some] <;> rfl) | (simp only [← hji39]; first | rfl | (simp [errW_none, errW_some] <;> rfl)) | (simp [*, errW_none, errW_some] <;> rfl), by repeat (first | (with_reducible first | exact HB.out | apply below_alloc | apply pw_below_drewN | apply below_drew1) | exact HB.out)⟩
                            · rw [if_neg c41] at H
                              exact absurd H (by simp)
                          · rw [if_neg c40] at H
                            exact absurd H (by simp)
                      · rw [if_neg c31] at H
                        have c31b0 : (t231.toList == t232.toList) = false := beq_eq_false_iff_ne.mpr c31
                        have c31b1 : (t231.toList != t232.toList) = true := bne_iff_ne.mpr c31
                        obtain rfl := Option.some.inj H
                        go_wp2_with (first | ((with_reducible refine gate_callee (f := 39) rfl ?_); refine goesL_ (some 48) rfl rfl Try.func39 (by kernel_rfl) rfl #[.slice A0 l0.length c0] rfl (by (try simp only [List.map_toArray, List.map_cons, List.map_nil]); first | done | rfl | (simp only [List.length_drop, List.length_take]; rfl)) ?_; (with_reducible refine (plaitinglaw1_Text.calls k1 _ _ l0 t228 _ ?side1 ?side2 A22.out).mono ?_); (case side1 => repeat (first | exact (Kd.C_below HR0.out HB.out) | (with_reducible refine Kd.C_alloc ?_ _) | (with_reducible refine Kd.C_drewN ?_ _) | (with_reducible refine Kd.C_drew ?_))); (case side2 => exact HC0.out); rintro e w48 ⟨rfl, hb⟩; refine ⟨_, rfl, ?_⟩; have n0_ := Aside0.mk (below_step (by repeat (first | (with_reducible first | exact HB.out | apply below_alloc | apply pw_below_drewN | apply below_drew1) | exact HB.out)) hb); clear HB; have HB := n0_; clear n0_; (try clear hb); (try clear hb2); (try clear hk); (try clear hi)) | ((with_reducible refine gate_callee (f := 38) rfl ?_); refine goesL_ (some 50) rfl rfl Try.func38 (by kernel_rfl) rfl #[.string (t228 ++ (⟨#[46]⟩ : ByteArray))] rfl (by (try simp only [List.map_toArray, List.map_cons, List.map_nil]); first | done | rfl | (simp only [List.length_drop, List.length_take]; rfl)) ?_; (with_reducible refine (sym_Clean.calls (t228 ++ (⟨#[46]⟩ : ByteArray)) t229 _ A24.out).mono ?_); rintro e w49 ⟨rfl, hb⟩; refine ⟨_, rfl, ?_⟩; have n0_ := Aside0.mk (below_step (by repeat (first | (with_reducible first | exact HB.out | apply below_alloc | apply pw_below_drewN | apply below_drew1) | exact HB.out)) hb); clear HB; have HB := n0_; clear n0_; (try clear hb); (try clear hb2); (try clear hk); (try clear hi)) | ((with_reducible refine gate_callee (f := 38) rfl ?_); refine goesL_ (some 52) rfl rfl Try.func38 (by kernel_rfl) rfl #[.string t227] rfl (by (try simp only [List.map_toArray, List.map_cons, List.map_nil]); first | done | rfl | (simp only [List.length_drop, List.length_take]; rfl)) ?_; (with_reducible refine (sym_Clean.calls t227 t230 _ A25.out).mono ?_); rintro e w50 ⟨rfl, hb⟩; refine ⟨_, rfl, ?_⟩; have n0_ := Aside0.mk (below_step (by repeat (first | (with_reducible first | exact HB.out | apply below_alloc | apply pw_below_drewN | apply below_drew1) | exact HB.out)) hb); clear HB; have HB := n0_; clear n0_; (try clear hb); (try clear hb2); (try clear hk); (try clear hi)) | (go_at_call 38; (with_reducible refine (sym_Clean.calls ((t229 ++ (⟨#[35]⟩ : ByteArray)) ++ a1) t231 _ A29.out).mono ?_); rintro e w51 ⟨rfl, hb⟩; have n0_ := Aside0.mk (below_step (by repeat (first | (with_reducible first | exact HB.out | apply below_alloc | apply pw_below_drewN | apply below_drew1) | exact HB.out)) hb); clear HB; have HB := n0_; clear n0_; (try clear hb); (try clear hb2); (try clear hk); (try clear hi)) | (go_at_call 40; (with_reducible refine (plaitingref1_Clean.calls k1 (t229 ++ (⟨#[35]⟩ : ByteArray)) t232 _ A30.out).mono ?_); rintro e w' ⟨rfl, ⟨nd, rfl⟩⟩))
                        go_ret
                        exact ⟨by first | rfl | (simp [errW_none, errW_some] <;> rfl) | (simp [*, errW_none, errW_some] <;> rfl), by repeat (first | (with_reducible first | exact HB.out | apply below_alloc | apply pw_below_drewN | apply below_drew1) | exact HB.out)⟩
                    · rw [if_neg c28] at H
                      exact absurd H (by simp)
                  · rw [if_neg c27] at H
                    exact absurd H (by simp)
                · rw [if_neg c26] at H
                  have c26b0 : (t230.toList == t227.toList) = false := beq_eq_false_iff_ne.mpr c26
                  have c26b1 : (t230.toList != t227.toList) = true := bne_iff_ne.mpr c26
                  obtain rfl := Option.some.inj H
                  go_wp2_with (first | ((with_reducible refine gate_callee (f := 39) rfl ?_); refine goesL_ (some 48) rfl rfl Try.func39 (by kernel_rfl) rfl #[.slice A0 l0.length c0] rfl (by (try simp only [List.map_toArray, List.map_cons, List.map_nil]); first | done | rfl | (simp only [List.length_drop, List.length_take]; rfl)) ?_; (with_reducible refine (plaitinglaw1_Text.calls k1 _ _ l0 t228 _ ?side1 ?side2 A22.out).mono ?_); (case side1 => repeat (first | exact (Kd.C_below HR0.out HB.out) | (with_reducible refine Kd.C_alloc ?_ _) | (with_reducible refine Kd.C_drewN ?_ _) | (with_reducible refine Kd.C_drew ?_))); (case side2 => exact HC0.out); rintro e w52 ⟨rfl, hb⟩; refine ⟨_, rfl, ?_⟩; have n0_ := Aside0.mk (below_step (by repeat (first | (with_reducible first | exact HB.out | apply below_alloc | apply pw_below_drewN | apply below_drew1) | exact HB.out)) hb); clear HB; have HB := n0_; clear n0_; (try clear hb); (try clear hb2); (try clear hk); (try clear hi)) | ((with_reducible refine gate_callee (f := 38) rfl ?_); refine goesL_ (some 50) rfl rfl Try.func38 (by kernel_rfl) rfl #[.string (t228 ++ (⟨#[46]⟩ : ByteArray))] rfl (by (try simp only [List.map_toArray, List.map_cons, List.map_nil]); first | done | rfl | (simp only [List.length_drop, List.length_take]; rfl)) ?_; (with_reducible refine (sym_Clean.calls (t228 ++ (⟨#[46]⟩ : ByteArray)) t229 _ A24.out).mono ?_); rintro e w53 ⟨rfl, hb⟩; refine ⟨_, rfl, ?_⟩; have n0_ := Aside0.mk (below_step (by repeat (first | (with_reducible first | exact HB.out | apply below_alloc | apply pw_below_drewN | apply below_drew1) | exact HB.out)) hb); clear HB; have HB := n0_; clear n0_; (try clear hb); (try clear hb2); (try clear hk); (try clear hi)) | ((with_reducible refine gate_callee (f := 38) rfl ?_); refine goesL_ (some 52) rfl rfl Try.func38 (by kernel_rfl) rfl #[.string t227] rfl (by (try simp only [List.map_toArray, List.map_cons, List.map_nil]); first | done | rfl | (simp only [List.length_drop, List.length_take]; rfl)) ?_; (with_reducible refine (sym_Clean.calls t227 t230 _ A25.out).mono ?_); rintro e w54 ⟨rfl, hb⟩; refine ⟨_, rfl, ?_⟩; have n0_ := Aside0.mk (below_step (by repeat (first | (with_reducible first | exact HB.out | apply below_alloc | apply pw_below_drewN | apply below_drew1) | exact HB.out)) hb); clear HB; have HB := n0_; clear n0_; (try clear hb); (try clear hb2); (try clear hk); (try clear hi)))
                  go_ret
                  exact ⟨by first | rfl | (simp [errW_none, errW_some] <;> rfl) | (simp [*, errW_none, errW_some] <;> rfl), by repeat (first | (with_reducible first | exact HB.out | apply below_alloc | apply pw_below_drewN | apply below_drew1) | exact HB.out)⟩
              · rw [if_neg c23] at H
                exact absurd H (by simp)
      · rw [if_neg c8] at H
        exact absurd H (by simp)
  · replace c4 := Bool.eq_false_iff.mpr c4
    subst c4
    have H1 : (some false) = some r := by rw [if_neg (show ¬ (false = true) by decide)] at H; exact H
    clear H
    have H := H1
    clear H1
    obtain rfl := Option.some.inj H
    go_enter Try.func9, Try.ntmps9
    go_wp2_with (first | ((with_reducible refine gate_callee (f := 37) rfl ?_); refine goesL_ (some 8) rfl rfl Try.func37 (by kernel_rfl) rfl #[] rfl (by (try simp only [List.map_toArray, List.map_cons, List.map_nil]); first | done | rfl | (simp only [List.length_drop, List.length_take]; rfl)) ?_; (with_reducible refine (plaitinglaw1_known.calls k  false _ A3.out).mono ?_); rintro e w55 ⟨rfl, hb⟩; refine ⟨_, rfl, ?_⟩; have n0_ := Aside0.mk (below_step (by repeat (first | (with_reducible first | exact HB.out | apply below_alloc | apply pw_below_drewN | apply below_drew1) | exact HB.out)) hb); clear HB; have HB := n0_; clear n0_; (try clear hb); (try clear hb2); (try clear hk); (try clear hi)))
    go_ret
    exact ⟨by first | rfl | (simp [errW_none, errW_some] <;> rfl) | (simp [*, errW_none, errW_some] <;> rfl), by repeat (first | (with_reducible first | exact HB.out | apply below_alloc | apply pw_below_drewN | apply below_drew1) | exact HB.out)⟩

/-- THE ONE PURE STATEMENT of plaitinglaw1_SymClean: yours. -/
def plaitinglaw1_SymClean.Pure : Prop := ∀ (l0 : List Int) (a1 : ByteArray), l0.length ≤ maxLen → l0.length * 8 ≤ 140737488351232 → (∀ x ∈ l0, (Lit.int .i64 x).wf = true) → a1.size ≤ 140737488351232 → ∃ k, plaitinglaw1_SymClean.f k l0 a1 = some true
theorem plaitinglaw1_SymClean.walk (P : plaitinglaw1_SymClean.Pure) (a0 : Option Addr) (len0 cap0 : Nat) (z0 : List Int) (a1 : ByteArray) (w : World) (w0 : (a0 = none ∧ len0 = 0 ∧ cap0 = 0 ∧ z0 = []) ∨ ∃ x, a0 = some x ∧ len0 ≤ cap0 ∧ cap0 ≤ maxLen ∧ z0.length = cap0 ∧ (∀ i, i < z0.length → w.cell? (x.add i) = some (.int .i64 (z0.getD i 0))) ∧ ∀ n ∈ z0, (Lit.int .i64 n).wf = true) (y0 : len0 * 8 ≤ 140737488351232) (w1 : a1.size ≤ 140737488351232) :
    Calls Try.prog 9 #[.slice a0 len0 cap0, .string a1] w fun e w' => e = .returned (.bool true) ∧ Below w.heap.size w w' := by
  obtain ⟨l0, rfl, hr0, hm0, hw0, hc0⟩ := ReadsInt.ofRowC w0
  obtain ⟨k, h⟩ := P l0 a1 hm0 y0 hw0 w1
  refine (plaitinglaw1_SymClean.calls k _ _ l0 a1 true w (Kd.C_of_reads (d := (0 : Int)) (h1 := fun _ => rfl) hr0) hc0 h).mono ?_
  rintro e w' ⟨rfl, hd⟩
  exact ⟨rfl, hd⟩

end Go.Proofs.Ytnggjnhfdjjphaa.PTwo
