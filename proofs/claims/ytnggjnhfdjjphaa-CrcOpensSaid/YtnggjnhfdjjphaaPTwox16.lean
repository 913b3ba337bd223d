-- Written by the session's own program (wip/gen).
import Derived.Test.YtnggjnhfdjjphaaPTwox0
import Derived.Test.YtnggjnhfdjjphaaPTwox3
import Derived.Test.YtnggjnhfdjjphaaPTwox7
import Derived.Test.YtnggjnhfdjjphaaPTwox9
import Derived.Test.YtnggjnhfdjjphaaPTwox10
import Derived.Test.YtnggjnhfdjjphaaPTwox12
import Derived.Test.YtnggjnhfdjjphaaPTwox13
import Derived.Test.YtnggjnhfdjjphaaPTwox15
namespace Go.Proofs.Ytnggjnhfdjjphaa.PTwo
open Go.RowKit Go.Proofs.YtnggjnhfdjjphaaW.PrintWords Go.Proofs.YtnggjnhfdjjphaaW.PrintLast Go.Proofs.YtnggjnhfdjjphaaW.PrintMore
attribute [local go_sem] max2_int min2_int max_two min_two max_three min_three max_four min_four   -- for this text's walks alone
set_option linter.unusedVariables false
set_option linter.unusedSimpArgs false

/-! ### plaitinglaw2_CrcOpens: function 16 -/
def plaitinglaw2_CrcOpens.l0 : Nat → List ByteArray → Int → Option (Bool)
  | 0, _, _ => none
  | k + 1, x15, x16 => if x16 < (x15.length : Int) then (if 0 ≤ x16 then ((crc_Open.f k (rdOf ByteArray.empty x15 x16)).bind fun bt174 => ((plaitingref2_Open.f k (rdOf ByteArray.empty x15 x16)).bind fun bt177 => (if bt174.1.toList = bt177.1.toList then (if bt174.2 = bt177.2 then (plaitinglaw2_CrcOpens.l0 k x15 (wrap64 (x16 + 1))) else (some false)) else (some false)))) else (none)) else (some true)
def plaitinglaw2_CrcOpens.f (k : Nat) (l0 : List Int) (a1 : Int) (a2 : Int) (a3 : Int) (l4 : List Int) (a5 : ByteArray) : Option (Bool) := (plaitinglaw2_known.f k).bind fun t161 => (if t161 = true then (if (a5.size : Int) > 200 then (some true) else ((plaitinglaw2_Bits.f k l0).bind fun t162 => ((plaitingref2_Wrap.f k t162).bind fun t163 => ((plaitinglaw2_within.f a3 (wrap64 ((t163.size : Int) + 1))).bind fun t164 => ((plaitinglaw2_within.f a1 (t163.size : Int)).bind fun t165 => ((plaitingref1_Turn.f k t163 t165).bind fun t166 => ((plaitinglaw2_within.f a1 (t163.size : Int)).bind fun t165 => ((plaitingref1_Turn.f k t163 t165).bind fun t166 => ((plaitinglaw2_within.f a2 (t163.size : Int)).bind fun t167 => ((plaitingref1_Turn.f k t166 t167).bind fun t168 => (if 0 ≤ t164 then (if t164 ≤ (t163.size : Int) then ((plaitinglaw1_Text.f k l4).bind fun t169 => (if (t163.extract 0 (t164 : Int).toNat).size + t169.size ≤ 9223372036854775807 then (if ((t163.extract 0 (t164 : Int).toNat) ++ t169).size + (t163.extract (t164 : Int).toNat t163.size).size ≤ 9223372036854775807 then ((plaitinglaw1_Text.f k l4).bind fun t169 => (if t163.size + t169.size ≤ 9223372036854775807 then ((plaitinglaw1_Text.f k l4).bind fun t169 => ((plaitinglaw1_Text.f k l4).bind fun t169 => (if t169.size + 1 ≤ 9223372036854775807 then (plaitinglaw2_CrcOpens.l0 k (([t166, t168, t163.extract 0 (t164 : Int).toNat, ((t163.extract 0 (t164 : Int).toNat) ++ t169) ++ (t163.extract (t164 : Int).toNat t163.size), t163 ++ t169, t169, a5, t169 ++ (⟨#[35]⟩ : ByteArray)] : List ByteArray)) 0) else (none)))) else (none))) else (none)) else (none))) else (none)) else (none)))))))))))) else (some false))
theorem plaitinglaw2_CrcOpens.mono_l : ∀ k, (∀ y0 y1, LeO (plaitinglaw2_CrcOpens.l0 k y0 y1) (plaitinglaw2_CrcOpens.l0 (k + 1) y0 y1))
  | 0 => fun _ _ r h => by simp [plaitinglaw2_CrcOpens.l0] at h
  | k + 1 => by
    have ih0 := plaitinglaw2_CrcOpens.mono_l k
    · intro y0 y1
      unfold plaitinglaw2_CrcOpens.l0
      repeat' first
      | (with_reducible exact ih0 _ _)
      | (with_reducible exact crc_Open.mono _ _)
      | (with_reducible exact plaitinglaw1_Text.mono _ _)
      | (with_reducible exact plaitinglaw2_Bits.mono _ _)
      | (with_reducible exact plaitinglaw2_known.mono _)
      | (with_reducible exact plaitingref1_Turn.mono _ _ _)
      | (with_reducible exact plaitingref2_Open.mono _ _)
      | (with_reducible exact plaitingref2_Wrap.mono _ _)
      | (with_reducible exact LeO.refl _)
      | (with_reducible exact LeO.none _)
      | (with_reducible refine LeO.ite ?_ ?_)
      | (with_reducible refine LeO.bind ?_ (fun _ => ?_))
      | exact ih0 _ _
      | exact crc_Open.mono _ _
      | exact plaitinglaw1_Text.mono _ _
      | exact plaitinglaw2_Bits.mono _ _
      | exact plaitinglaw2_known.mono _
      | exact plaitingref1_Turn.mono _ _ _
      | exact plaitingref2_Open.mono _ _
      | exact plaitingref2_Wrap.mono _ _
      | exact LeO.none _
      | refine LeO.ite ?_ ?_
      | refine LeO.bind ?_ (fun _ => ?_)
theorem plaitinglaw2_CrcOpens.mono : ∀ a0 a1 a2 a3 a4 a5 k, LeO (plaitinglaw2_CrcOpens.f k a0 a1 a2 a3 a4 a5) (plaitinglaw2_CrcOpens.f (k + 1) a0 a1 a2 a3 a4 a5) := by
  intro a0 a1 a2 a3 a4 a5 k
  have ih0 := plaitinglaw2_CrcOpens.mono_l k
  unfold plaitinglaw2_CrcOpens.f
  repeat' first
      | (with_reducible exact ih0 _ _)
      | (with_reducible exact crc_Open.mono _ _)
      | (with_reducible exact plaitinglaw1_Text.mono _ _)
      | (with_reducible exact plaitinglaw2_Bits.mono _ _)
      | (with_reducible exact plaitinglaw2_known.mono _)
      | (with_reducible exact plaitingref1_Turn.mono _ _ _)
      | (with_reducible exact plaitingref2_Open.mono _ _)
      | (with_reducible exact plaitingref2_Wrap.mono _ _)
      | (with_reducible exact LeO.refl _)
      | (with_reducible exact LeO.none _)
      | (with_reducible refine LeO.ite ?_ ?_)
      | (with_reducible refine LeO.bind ?_ (fun _ => ?_))
      | exact ih0 _ _
      | exact crc_Open.mono _ _
      | exact plaitinglaw1_Text.mono _ _
      | exact plaitinglaw2_Bits.mono _ _
      | exact plaitinglaw2_known.mono _
      | exact plaitingref1_Turn.mono _ _ _
      | exact plaitingref2_Open.mono _ _
      | exact plaitingref2_Wrap.mono _ _
      | exact LeO.none _
      | refine LeO.ite ?_ ?_
      | refine LeO.bind ?_ (fun _ => ?_)
def plaitinglaw2_CrcOpens.T7 : Bool × List (List Nat × List Nat) := (true, [([], []), ([], []), ([], []), ([2], [2]), ([1, 3], [1, 3]), ([0, 4, 4], [0, 4]), ([], []), ([], []), ([], []), ([8], [8]), ([7, 9, 5], [7, 9]), ([6, 10, 10], [6, 10]), ([], []), ([], []), ([13], [13]), ([12, 14, 11], [12, 14]), ([11, 15, 15], [11, 15]), ([], []), ([], []), ([17, 18], [17, 18]), ([], []), ([], []), ([20, 21], [20, 21]), ([], []), ([23, 16], [23]), ([22, 24], [22, 24]), ([], []), ([], []), ([26, 27], [26, 27]), ([25, 28], [25, 28]), ([], []), ([], []), ([31, 24], [31]), ([30, 32], [30, 32]), ([], []), ([34, 32], [34]), ([], []), ([], []), ([37, 35], [37]), ([38], [38]), ([5, 16, 19, 29, 33, 35, 36, 39], [5, 16, 19, 29, 33, 35, 36, 39]), ([40, 38, 0, 1, 2, 3, 4, 5, 6, 7, 8, 9, 10, 11, 12, 13, 14, 15, 16, 17, 18, 19, 20, 21, 22, 23, 24, 25, 26, 27, 28, 29, 30, 31, 32, 33, 34, 35, 36, 37, 38, 39, 40], [40])])
def plaitinglaw2_CrcOpens.B7 : List Nat := [0, 0, 0, 4, 14, 31, 0, 0, 0, 256, 959, 2047, 0, 0, 8192, 32767, 65535, 0, 0, 393216, 0, 0, 3145728, 0, 8519679, 32636927, 0, 0, 201326592, 535953407, 0, 0, 2172780543, 7541489663, 0, 23647617023, 0, 0, 195446308863, 470324215807, 1099511627775, 2199023255551]
theorem plaitinglaw2_CrcOpens.tab7 : rtab .any (opsOf Try.f16 7) = plaitinglaw2_CrcOpens.T7 := by kernel_rfl
theorem plaitinglaw2_CrcOpens.bits7 : waitsOk plaitinglaw2_CrcOpens.T7.2 plaitinglaw2_CrcOpens.B7 = true := by kernel_rfl
set_option maxHeartbeats 8000000 in
set_option maxRecDepth 100000 in
theorem plaitinglaw2_CrcOpens.calls (k : Nat) (A0 : Option Addr) (c0 : Nat) (l0 : List Int) (a1 : Int) (a2 : Int) (a3 : Int) (A4 : Option Addr) (c4 : Nat) (l4 : List Int) (a5 : ByteArray) (r : Bool) (w : World) (hr0 : Kd.C (Kd.int .i64) w A0 l0.length l0) (hc0 : l0.length ≤ c0) (hr4 : Kd.C (Kd.int .i64) w A4 l4.length l4) (hc4 : l4.length ≤ c4) (h : plaitinglaw2_CrcOpens.f k l0 a1 a2 a3 l4 a5 = some r) :
    Calls Try.prog 16 #[.slice A0 l0.length c0, .int .i64 a1, .int .i64 a2, .int .i64 a3, .slice A4 l4.length c4, .string a5] w fun e w' => e = .returned (.bool r) ∧ Below w.heap.size w w' := by
  have HR0 := Aside0.mk hr0
  have HC0 := Aside0.mk hc0
  clear hr0 hc0
  have HR4 := Aside0.mk hr4
  have HC4 := Aside0.mk hc4
  clear hr4 hc4
  have HB := Aside0.mk (Below.refl w.heap.size w)
  have H : ((plaitinglaw2_known.f k).bind fun t161 => (if t161 = true then (if (a5.size : Int) > 200 then (some true) else ((plaitinglaw2_Bits.f k l0).bind fun t162 => ((plaitingref2_Wrap.f k t162).bind fun t163 => ((plaitinglaw2_within.f a3 (wrap64 ((t163.size : Int) + 1))).bind fun t164 => ((plaitinglaw2_within.f a1 (t163.size : Int)).bind fun t165 => ((plaitingref1_Turn.f k t163 t165).bind fun t166 => ((plaitinglaw2_within.f a1 (t163.size : Int)).bind fun t165 => ((plaitingref1_Turn.f k t163 t165).bind fun t166 => ((plaitinglaw2_within.f a2 (t163.size : Int)).bind fun t167 => ((plaitingref1_Turn.f k t166 t167).bind fun t168 => (if 0 ≤ t164 then (if t164 ≤ (t163.size : Int) then ((plaitinglaw1_Text.f k l4).bind fun t169 => (if (t163.extract 0 (t164 : Int).toNat).size + t169.size ≤ 9223372036854775807 then (if ((t163.extract 0 (t164 : Int).toNat) ++ t169).size + (t163.extract (t164 : Int).toNat t163.size).size ≤ 9223372036854775807 then ((plaitinglaw1_Text.f k l4).bind fun t169 => (if t163.size + t169.size ≤ 9223372036854775807 then ((plaitinglaw1_Text.f k l4).bind fun t169 => ((plaitinglaw1_Text.f k l4).bind fun t169 => (if t169.size + 1 ≤ 9223372036854775807 then (plaitinglaw2_CrcOpens.l0 k (([t166, t168, t163.extract 0 (t164 : Int).toNat, ((t163.extract 0 (t164 : Int).toNat) ++ t169) ++ (t163.extract (t164 : Int).toNat t163.size), t163 ++ t169, t169, a5, t169 ++ (⟨#[35]⟩ : ByteArray)] : List ByteArray)) 0) else (none)))) else (none))) else (none)) else (none))) else (none)) else (none)))))))))))) else (some false))) = some r := h
  clear h
  replace H := Option.bind_eq_some_iff.mp H
  obtain ⟨t161, A70, H⟩ := H
  replace H : (if t161 = true then (if (a5.size : Int) > 200 then (some true) else ((plaitinglaw2_Bits.f k l0).bind fun t162 => ((plaitingref2_Wrap.f k t162).bind fun t163 => ((plaitinglaw2_within.f a3 (wrap64 ((t163.size : Int) + 1))).bind fun t164 => ((plaitinglaw2_within.f a1 (t163.size : Int)).bind fun t165 => ((plaitingref1_Turn.f k t163 t165).bind fun t166 => ((plaitinglaw2_within.f a1 (t163.size : Int)).bind fun t165 => ((plaitingref1_Turn.f k t163 t165).bind fun t166 => ((plaitinglaw2_within.f a2 (t163.size : Int)).bind fun t167 => ((plaitingref1_Turn.f k t166 t167).bind fun t168 => (if 0 ≤ t164 then (if t164 ≤ (t163.size : Int) then ((plaitinglaw1_Text.f k l4).bind fun t169 => (if (t163.extract 0 (t164 : Int).toNat).size + t169.size ≤ 9223372036854775807 then (if ((t163.extract 0 (t164 : Int).toNat) ++ t169).size + (t163.extract (t164 : Int).toNat t163.size).size ≤ 9223372036854775807 then ((plaitinglaw1_Text.f k l4).bind fun t169 => (if t163.size + t169.size ≤ 9223372036854775807 then ((plaitinglaw1_Text.f k l4).bind fun t169 => ((plaitinglaw1_Text.f k l4).bind fun t169 => (if t169.size + 1 ≤ 9223372036854775807 then (plaitinglaw2_CrcOpens.l0 k (([t166, t168, t163.extract 0 (t164 : Int).toNat, ((t163.extract 0 (t164 : Int).toNat) ++ t169) ++ (t163.extract (t164 : Int).toNat t163.size), t163 ++ t169, t169, a5, t169 ++ (⟨#[35]⟩ : ByteArray)] : List ByteArray)) 0) else (none)))) else (none))) else (none)) else (none))) else (none)) else (none)))))))))))) else (some false)) = some r := H
  have A7 := Aside0.mk A70
  clear A70
  by_cases c8 : t161 = true
  · subst c8
    have H1 : (if (a5.size : Int) > 200 then (some true) else ((plaitinglaw2_Bits.f k l0).bind fun t162 => ((plaitingref2_Wrap.f k t162).bind fun t163 => ((plaitinglaw2_within.f a3 (wrap64 ((t163.size : Int) + 1))).bind fun t164 => ((plaitinglaw2_within.f a1 (t163.size : Int)).bind fun t165 => ((plaitingref1_Turn.f k t163 t165).bind fun t166 => ((plaitinglaw2_within.f a1 (t163.size : Int)).bind fun t165 => ((plaitingref1_Turn.f k t163 t165).bind fun t166 => ((plaitinglaw2_within.f a2 (t163.size : Int)).bind fun t167 => ((plaitingref1_Turn.f k t166 t167).bind fun t168 => (if 0 ≤ t164 then (if t164 ≤ (t163.size : Int) then ((plaitinglaw1_Text.f k l4).bind fun t169 => (if (t163.extract 0 (t164 : Int).toNat).size + t169.size ≤ 9223372036854775807 then (if ((t163.extract 0 (t164 : Int).toNat) ++ t169).size + (t163.extract (t164 : Int).toNat t163.size).size ≤ 9223372036854775807 then ((plaitinglaw1_Text.f k l4).bind fun t169 => (if t163.size + t169.size ≤ 9223372036854775807 then ((plaitinglaw1_Text.f k l4).bind fun t169 => ((plaitinglaw1_Text.f k l4).bind fun t169 => (if t169.size + 1 ≤ 9223372036854775807 then (plaitinglaw2_CrcOpens.l0 k (([t166, t168, t163.extract 0 (t164 : Int).toNat, ((t163.extract 0 (t164 : Int).toNat) ++ t169) ++ (t163.extract (t164 : Int).toNat t163.size), t163 ++ t169, t169, a5, t169 ++ (⟨#[35]⟩ : ByteArray)] : List ByteArray)) 0) else (none)))) else (none))) else (none)) else (none))) else (none)) else (none)))))))))))) = some r := by rw [if_pos rfl] at H; exact H
    clear H
    have H := H1
    clear H1
    by_cases c9 : (a5.size : Int) > 200
    · rw [if_pos c9] at H
      have c9b0 : decide (200 < (a5.size : Int)) = true := decide_eq_true c9
      have c9b1 : decide (200 < a5.size) = true := decide_eq_true (by omega)
      clear c9
      obtain rfl := Option.some.inj H
      go_enter Try.func16, Try.ntmps16
      go_wp2_with (first | ((with_reducible refine gate_callee (f := 33) rfl ?_); refine goesL_ (some 21) rfl rfl Try.func33 (by kernel_rfl) rfl #[] rfl (by (try simp only [List.map_toArray, List.map_cons, List.map_nil]); first | done | rfl | (simp only [List.length_drop, List.length_take]; rfl)) ?_; (with_reducible refine (plaitinglaw2_known.calls k  true _ A7.out).mono ?_); rintro e w10 ⟨rfl, hb⟩; refine ⟨_, rfl, ?_⟩; have n0_ := Aside0.mk (below_step (by repeat (first | (with_reducible first | exact HB.out | apply below_alloc | apply pw_below_drewN | apply below_drew1) | exact HB.out)) hb); clear HB; have HB := n0_; clear n0_; (try clear hb); (try clear hb2); (try clear hk); (try clear hi)))
      go_ret
      exact ⟨by first | rfl | (simp [errW_none, errW_some] <;> rfl) | (simp [*, errW_none, errW_some] <;> rfl), by repeat (first | (with_reducible first | exact HB.out | apply below_alloc | apply pw_below_drewN | apply below_drew1) | exact HB.out)⟩
    · rw [if_neg c9] at H
      have c9b0 : decide (200 < (a5.size : Int)) = false := decide_eq_false c9
      have c9b1 : decide (200 < a5.size) = false := decide_eq_false (by omega)
      clear c9
      replace H := Option.bind_eq_some_iff.mp H
      obtain ⟨t162, A110, H⟩ := H
      replace H : ((plaitingref2_Wrap.f k t162).bind fun t163 => ((plaitinglaw2_within.f a3 (wrap64 ((t163.size : Int) + 1))).bind fun t164 => ((plaitinglaw2_within.f a1 (t163.size : Int)).bind fun t165 => ((plaitingref1_Turn.f k t163 t165).bind fun t166 => ((plaitinglaw2_within.f a1 (t163.size : Int)).bind fun t165 => ((plaitingref1_Turn.f k t163 t165).bind fun t166 => ((plaitinglaw2_within.f a2 (t163.size : Int)).bind fun t167 => ((plaitingref1_Turn.f k t166 t167).bind fun t168 => (if 0 ≤ t164 then (if t164 ≤ (t163.size : Int) then ((plaitinglaw1_Text.f k l4).bind fun t169 => (if (t163.extract 0 (t164 : Int).toNat).size + t169.size ≤ 9223372036854775807 then (if ((t163.extract 0 (t164 : Int).toNat) ++ t169).size + (t163.extract (t164 : Int).toNat t163.size).size ≤ 9223372036854775807 then ((plaitinglaw1_Text.f k l4).bind fun t169 => (if t163.size + t169.size ≤ 9223372036854775807 then ((plaitinglaw1_Text.f k l4).bind fun t169 => ((plaitinglaw1_Text.f k l4).bind fun t169 => (if t169.size + 1 ≤ 9223372036854775807 then (plaitinglaw2_CrcOpens.l0 k (([t166, t168, t163.extract 0 (t164 : Int).toNat, ((t163.extract 0 (t164 : Int).toNat) ++ t169) ++ (t163.extract (t164 : Int).toNat t163.size), t163 ++ t169, t169, a5, t169 ++ (⟨#[35]⟩ : ByteArray)] : List ByteArray)) 0) else (none)))) else (none))) else (none)) else (none))) else (none)) else (none)))))))))) = some r := H
      have A11 := Aside0.mk A110
      clear A110
      replace H := Option.bind_eq_some_iff.mp H
      obtain ⟨t163, A120, H⟩ := H
      replace H : ((plaitinglaw2_within.f a3 (wrap64 ((t163.size : Int) + 1))).bind fun t164 => ((plaitinglaw2_within.f a1 (t163.size : Int)).bind fun t165 => ((plaitingref1_Turn.f k t163 t165).bind fun t166 => ((plaitinglaw2_within.f a1 (t163.size : Int)).bind fun t165 => ((plaitingref1_Turn.f k t163 t165).bind fun t166 => ((plaitinglaw2_within.f a2 (t163.size : Int)).bind fun t167 => ((plaitingref1_Turn.f k t166 t167).bind fun t168 => (if 0 ≤ t164 then (if t164 ≤ (t163.size : Int) then ((plaitinglaw1_Text.f k l4).bind fun t169 => (if (t163.extract 0 (t164 : Int).toNat).size + t169.size ≤ 9223372036854775807 then (if ((t163.extract 0 (t164 : Int).toNat) ++ t169).size + (t163.extract (t164 : Int).toNat t163.size).size ≤ 9223372036854775807 then ((plaitinglaw1_Text.f k l4).bind fun t169 => (if t163.size + t169.size ≤ 9223372036854775807 then ((plaitinglaw1_Text.f k l4).bind fun t169 => ((plaitinglaw1_Text.f k l4).bind fun t169 => (if t169.size + 1 ≤ 9223372036854775807 then (plaitinglaw2_CrcOpens.l0 k (([t166, t168, t163.extract 0 (t164 : Int).toNat, ((t163.extract 0 (t164 : Int).toNat) ++ t169) ++ (t163.extract (t164 : Int).toNat t163.size), t163 ++ t169, t169, a5, t169 ++ (⟨#[35]⟩ : ByteArray)] : List ByteArray)) 0) else (none)))) else (none))) else (none)) else (none))) else (none)) else (none))))))))) = some r := H
      have A12 := Aside0.mk A120
      clear A120
      replace H := Option.bind_eq_some_iff.mp H
      obtain ⟨t164, A130, H⟩ := H
      replace H : ((plaitinglaw2_within.f a1 (t163.size : Int)).bind fun t165 => ((plaitingref1_Turn.f k t163 t165).bind fun t166 => ((plaitinglaw2_within.f a1 (t163.size : Int)).bind fun t165 => ((plaitingref1_Turn.f k t163 t165).bind fun t166 => ((plaitinglaw2_within.f a2 (t163.size : Int)).bind fun t167 => ((plaitingref1_Turn.f k t166 t167).bind fun t168 => (if 0 ≤ t164 then (if t164 ≤ (t163.size : Int) then ((plaitinglaw1_Text.f k l4).bind fun t169 => (if (t163.extract 0 (t164 : Int).toNat).size + t169.size ≤ 9223372036854775807 then (if ((t163.extract 0 (t164 : Int).toNat) ++ t169).size + (t163.extract (t164 : Int).toNat t163.size).size ≤ 9223372036854775807 then ((plaitinglaw1_Text.f k l4).bind fun t169 => (if t163.size + t169.size ≤ 9223372036854775807 then ((plaitinglaw1_Text.f k l4).bind fun t169 => ((plaitinglaw1_Text.f k l4).bind fun t169 => (if t169.size + 1 ≤ 9223372036854775807 then (plaitinglaw2_CrcOpens.l0 k (([t166, t168, t163.extract 0 (t164 : Int).toNat, ((t163.extract 0 (t164 : Int).toNat) ++ t169) ++ (t163.extract (t164 : Int).toNat t163.size), t163 ++ t169, t169, a5, t169 ++ (⟨#[35]⟩ : ByteArray)] : List ByteArray)) 0) else (none)))) else (none))) else (none)) else (none))) else (none)) else (none)))))))) = some r := H
      have A13 := Aside0.mk A130
      clear A130
      replace H := Option.bind_eq_some_iff.mp H
      obtain ⟨t165, A140, H⟩ := H
      replace H : ((plaitingref1_Turn.f k t163 t165).bind fun t166 => ((plaitinglaw2_within.f a1 (t163.size : Int)).bind fun t165 => ((plaitingref1_Turn.f k t163 t165).bind fun t166 => ((plaitinglaw2_within.f a2 (t163.size : Int)).bind fun t167 => ((plaitingref1_Turn.f k t166 t167).bind fun t168 => (if 0 ≤ t164 then (if t164 ≤ (t163.size : Int) then ((plaitinglaw1_Text.f k l4).bind fun t169 => (if (t163.extract 0 (t164 : Int).toNat).size + t169.size ≤ 9223372036854775807 then (if ((t163.extract 0 (t164 : Int).toNat) ++ t169).size + (t163.extract (t164 : Int).toNat t163.size).size ≤ 9223372036854775807 then ((plaitinglaw1_Text.f k l4).bind fun t169 => (if t163.size + t169.size ≤ 9223372036854775807 then ((plaitinglaw1_Text.f k l4).bind fun t169 => ((plaitinglaw1_Text.f k l4).bind fun t169 => (if t169.size + 1 ≤ 9223372036854775807 then (plaitinglaw2_CrcOpens.l0 k (([t166, t168, t163.extract 0 (t164 : Int).toNat, ((t163.extract 0 (t164 : Int).toNat) ++ t169) ++ (t163.extract (t164 : Int).toNat t163.size), t163 ++ t169, t169, a5, t169 ++ (⟨#[35]⟩ : ByteArray)] : List ByteArray)) 0) else (none)))) else (none))) else (none)) else (none))) else (none)) else (none))))))) = some r := H
      have A14 := Aside0.mk A140
      clear A140
      replace H := Option.bind_eq_some_iff.mp H
      obtain ⟨t166, A150, H⟩ := H
      replace H : ((plaitinglaw2_within.f a1 (t163.size : Int)).bind fun t165 => ((plaitingref1_Turn.f k t163 t165).bind fun t166 => ((plaitinglaw2_within.f a2 (t163.size : Int)).bind fun t167 => ((plaitingref1_Turn.f k t166 t167).bind fun t168 => (if 0 ≤ t164 then (if t164 ≤ (t163.size : Int) then ((plaitinglaw1_Text.f k l4).bind fun t169 => (if (t163.extract 0 (t164 : Int).toNat).size + t169.size ≤ 9223372036854775807 then (if ((t163.extract 0 (t164 : Int).toNat) ++ t169).size + (t163.extract (t164 : Int).toNat t163.size).size ≤ 9223372036854775807 then ((plaitinglaw1_Text.f k l4).bind fun t169 => (if t163.size + t169.size ≤ 9223372036854775807 then ((plaitinglaw1_Text.f k l4).bind fun t169 => ((plaitinglaw1_Text.f k l4).bind fun t169 => (if t169.size + 1 ≤ 9223372036854775807 then (plaitinglaw2_CrcOpens.l0 k (([t166, t168, t163.extract 0 (t164 : Int).toNat, ((t163.extract 0 (t164 : Int).toNat) ++ t169) ++ (t163.extract (t164 : Int).toNat t163.size), t163 ++ t169, t169, a5, t169 ++ (⟨#[35]⟩ : ByteArray)] : List ByteArray)) 0) else (none)))) else (none))) else (none)) else (none))) else (none)) else (none)))))) = some r := H
      have A15 := Aside0.mk A150
      clear A150
      replace H := Option.bind_eq_some_iff.mp H
      obtain ⟨tz16, az17, H⟩ := H
      obtain rfl : t165 = tz16 := Option.some.inj (A14.out.symm.trans az17)
      clear az17
      replace H : ((plaitingref1_Turn.f k t163 t165).bind fun t166 => ((plaitinglaw2_within.f a2 (t163.size : Int)).bind fun t167 => ((plaitingref1_Turn.f k t166 t167).bind fun t168 => (if 0 ≤ t164 then (if t164 ≤ (t163.size : Int) then ((plaitinglaw1_Text.f k l4).bind fun t169 => (if (t163.extract 0 (t164 : Int).toNat).size + t169.size ≤ 9223372036854775807 then (if ((t163.extract 0 (t164 : Int).toNat) ++ t169).size + (t163.extract (t164 : Int).toNat t163.size).size ≤ 9223372036854775807 then ((plaitinglaw1_Text.f k l4).bind fun t169 => (if t163.size + t169.size ≤ 9223372036854775807 then ((plaitinglaw1_Text.f k l4).bind fun t169 => ((plaitinglaw1_Text.f k l4).bind fun t169 => (if t169.size + 1 ≤ 9223372036854775807 then (plaitinglaw2_CrcOpens.l0 k (([t166, t168, t163.extract 0 (t164 : Int).toNat, ((t163.extract 0 (t164 : Int).toNat) ++ t169) ++ (t163.extract (t164 : Int).toNat t163.size), t163 ++ t169, t169, a5, t169 ++ (⟨#[35]⟩ : ByteArray)] : List ByteArray)) 0) else (none)))) else (none))) else (none)) else (none))) else (none)) else (none))))) = some r := H
      replace H := Option.bind_eq_some_iff.mp H
      obtain ⟨tz18, az19, H⟩ := H
      obtain rfl : t166 = tz18 := Option.some.inj (A15.out.symm.trans az19)
      clear az19
      replace H : ((plaitinglaw2_within.f a2 (t163.size : Int)).bind fun t167 => ((plaitingref1_Turn.f k t166 t167).bind fun t168 => (if 0 ≤ t164 then (if t164 ≤ (t163.size : Int) then ((plaitinglaw1_Text.f k l4).bind fun t169 => (if (t163.extract 0 (t164 : Int).toNat).size + t169.size ≤ 9223372036854775807 then (if ((t163.extract 0 (t164 : Int).toNat) ++ t169).size + (t163.extract (t164 : Int).toNat t163.size).size ≤ 9223372036854775807 then ((plaitinglaw1_Text.f k l4).bind fun t169 => (if t163.size + t169.size ≤ 9223372036854775807 then ((plaitinglaw1_Text.f k l4).bind fun t169 => ((plaitinglaw1_Text.f k l4).bind fun t169 => (if t169.size + 1 ≤ 9223372036854775807 then (plaitinglaw2_CrcOpens.l0 k (([t166, t168, t163.extract 0 (t164 : Int).toNat, ((t163.extract 0 (t164 : Int).toNat) ++ t169) ++ (t163.extract (t164 : Int).toNat t163.size), t163 ++ t169, t169, a5, t169 ++ (⟨#[35]⟩ : ByteArray)] : List ByteArray)) 0) else (none)))) else (none))) else (none)) else (none))) else (none)) else (none)))) = some r := H
      replace H := Option.bind_eq_some_iff.mp H
      obtain ⟨t167, A200, H⟩ := H
      replace H : ((plaitingref1_Turn.f k t166 t167).bind fun t168 => (if 0 ≤ t164 then (if t164 ≤ (t163.size : Int) then ((plaitinglaw1_Text.f k l4).bind fun t169 => (if (t163.extract 0 (t164 : Int).toNat).size + t169.size ≤ 9223372036854775807 then (if ((t163.extract 0 (t164 : Int).toNat) ++ t169).size + (t163.extract (t164 : Int).toNat t163.size).size ≤ 9223372036854775807 then ((plaitinglaw1_Text.f k l4).bind fun t169 => (if t163.size + t169.size ≤ 9223372036854775807 then ((plaitinglaw1_Text.f k l4).bind fun t169 => ((plaitinglaw1_Text.f k l4).bind fun t169 => (if t169.size + 1 ≤ 9223372036854775807 then (plaitinglaw2_CrcOpens.l0 k (([t166, t168, t163.extract 0 (t164 : Int).toNat, ((t163.extract 0 (t164 : Int).toNat) ++ t169) ++ (t163.extract (t164 : Int).toNat t163.size), t163 ++ t169, t169, a5, t169 ++ (⟨#[35]⟩ : ByteArray)] : List ByteArray)) 0) else (none)))) else (none))) else (none)) else (none))) else (none)) else (none))) = some r := H
      have A20 := Aside0.mk A200
      clear A200
      replace H := Option.bind_eq_some_iff.mp H
      obtain ⟨t168, A210, H⟩ := H
      replace H : (if 0 ≤ t164 then (if t164 ≤ (t163.size : Int) then ((plaitinglaw1_Text.f k l4).bind fun t169 => (if (t163.extract 0 (t164 : Int).toNat).size + t169.size ≤ 9223372036854775807 then (if ((t163.extract 0 (t164 : Int).toNat) ++ t169).size + (t163.extract (t164 : Int).toNat t163.size).size ≤ 9223372036854775807 then ((plaitinglaw1_Text.f k l4).bind fun t169 => (if t163.size + t169.size ≤ 9223372036854775807 then ((plaitinglaw1_Text.f k l4).bind fun t169 => ((plaitinglaw1_Text.f k l4).bind fun t169 => (if t169.size + 1 ≤ 9223372036854775807 then (plaitinglaw2_CrcOpens.l0 k (([t166, t168, t163.extract 0 (t164 : Int).toNat, ((t163.extract 0 (t164 : Int).toNat) ++ t169) ++ (t163.extract (t164 : Int).toNat t163.size), t163 ++ t169, t169, a5, t169 ++ (⟨#[35]⟩ : ByteArray)] : List ByteArray)) 0) else (none)))) else (none))) else (none)) else (none))) else (none)) else (none)) = some r := H
      have A21 := Aside0.mk A210
      clear A210
      by_cases c22 : 0 ≤ t164
      · rw [if_pos c22] at H
        have c22b0 := eq_true c22
        have c22b1 : decide (0 ≤ t164) = true := decide_eq_true c22
        clear c22
        by_cases c23 : t164 ≤ (t163.size : Int)
        · rw [if_pos c23] at H
          have c23b0 := eq_true c23
          have c23b1 : decide (t164 ≤ (t163.size : Int)) = true := decide_eq_true c23
          clear c23
          have c24b0 := eq_true (of_decide_eq_true (by first | (with_reducible assumption) | assumption) : 0 ≤ t164)
          have c25b0 := eq_true (of_decide_eq_true (by first | (with_reducible assumption) | assumption) : t164 ≤ (t163.size : Int))
          replace H := Option.bind_eq_some_iff.mp H
          obtain ⟨t169, A260, H⟩ := H
          replace H : (if (t163.extract 0 (t164 : Int).toNat).size + t169.size ≤ 9223372036854775807 then (if ((t163.extract 0 (t164 : Int).toNat) ++ t169).size + (t163.extract (t164 : Int).toNat t163.size).size ≤ 9223372036854775807 then ((plaitinglaw1_Text.f k l4).bind fun t169 => (if t163.size + t169.size ≤ 9223372036854775807 then ((plaitinglaw1_Text.f k l4).bind fun t169 => ((plaitinglaw1_Text.f k l4).bind fun t169 => (if t169.size + 1 ≤ 9223372036854775807 then (plaitinglaw2_CrcOpens.l0 k (([t166, t168, t163.extract 0 (t164 : Int).toNat, ((t163.extract 0 (t164 : Int).toNat) ++ t169) ++ (t163.extract (t164 : Int).toNat t163.size), t163 ++ t169, t169, a5, t169 ++ (⟨#[35]⟩ : ByteArray)] : List ByteArray)) 0) else (none)))) else (none))) else (none)) else (none)) = some r := H
          have A26 := Aside0.mk A260
          clear A260
          by_cases c27 : (t163.extract 0 (t164 : Int).toNat).size + t169.size ≤ 9223372036854775807
          · rw [if_pos c27] at H
            have c27b0 := eq_true c27
            have c27b1 : decide ((t163.extract 0 (t164 : Int).toNat).size + t169.size ≤ 9223372036854775807) = true := decide_eq_true c27
            try have c27b2 : (9223372036854775807 < (t163.extract 0 (t164 : Int).toNat).size + t169.size) = False := eq_false (Nat.not_lt.2 c27)
            (try (have c27b3 := c27; simp only [ByteArray.size_append] at c27b3))
            (try (have c27b4 := c27; simp only [ByteArray.size_append, ByteArray.size_extract] at c27b4))
            (try (have c27b5 : (t164 : Int).toNat + t169.size ≤ 9223372036854775807 := by (have h_ := c27; simp only [ByteArray.size_append, ByteArray.size_extract] at h_; simp only [decide_eq_true_eq] at *; omega)))
            (try (have c27b6 : (9223372036854775807 < (t164 : Int).toNat + t169.size) = False := eq_false (Nat.not_lt.2 c27b5)))
            have c28b0 := eq_true (of_decide_eq_true (by first | (with_reducible assumption) | assumption) : 0 ≤ t164)
            have c29b0 := eq_true (of_decide_eq_true (by first | (with_reducible assumption) | assumption) : t164 ≤ (t163.size : Int))
            by_cases c30 : ((t163.extract 0 (t164 : Int).toNat) ++ t169).size + (t163.extract (t164 : Int).toNat t163.size).size ≤ 9223372036854775807
            · rw [if_pos c30] at H
              have c30b0 := eq_true c30
              have c30b1 : decide (((t163.extract 0 (t164 : Int).toNat) ++ t169).size + (t163.extract (t164 : Int).toNat t163.size).size ≤ 9223372036854775807) = true := decide_eq_true c30
              try have c30b2 : (9223372036854775807 < ((t163.extract 0 (t164 : Int).toNat) ++ t169).size + (t163.extract (t164 : Int).toNat t163.size).size) = False := eq_false (Nat.not_lt.2 c30)
              (try (have c30b3 := c30; simp only [ByteArray.size_append] at c30b3))
              (try (have c30b4 := c30; simp only [ByteArray.size_append, ByteArray.size_extract] at c30b4))
              (try (have c30b5 : (t164 : Int).toNat + t169.size + (t163.size - (t164 : Int).toNat) ≤ 9223372036854775807 := by (have h_ := c30; simp only [ByteArray.size_append, ByteArray.size_extract] at h_; simp only [decide_eq_true_eq] at *; omega)))
              (try (have c30b6 : (9223372036854775807 < (t164 : Int).toNat + t169.size + (t163.size - (t164 : Int).toNat)) = False := eq_false (Nat.not_lt.2 c30b5)))
              replace H := Option.bind_eq_some_iff.mp H
              obtain ⟨tz31, az32, H⟩ := H
              obtain rfl : t169 = tz31 := Option.some.inj (A26.out.symm.trans az32)
              clear az32
              replace H : (if t163.size + t169.size ≤ 9223372036854775807 then ((plaitinglaw1_Text.f k l4).bind fun t169 => ((plaitinglaw1_Text.f k l4).bind fun t169 => (if t169.size + 1 ≤ 9223372036854775807 then (plaitinglaw2_CrcOpens.l0 k (([t166, t168, t163.extract 0 (t164 : Int).toNat, ((t163.extract 0 (t164 : Int).toNat) ++ t169) ++ (t163.extract (t164 : Int).toNat t163.size), t163 ++ t169, t169, a5, t169 ++ (⟨#[35]⟩ : ByteArray)] : List ByteArray)) 0) else (none)))) else (none)) = some r := H
              by_cases c33 : t163.size + t169.size ≤ 9223372036854775807
              · rw [if_pos c33] at H
                have c33b0 := eq_true c33
                have c33b1 : decide (t163.size + t169.size ≤ 9223372036854775807) = true := decide_eq_true c33
                try have c33b2 : (9223372036854775807 < t163.size + t169.size) = False := eq_false (Nat.not_lt.2 c33)
                replace H := Option.bind_eq_some_iff.mp H
                obtain ⟨tz34, az35, H⟩ := H
                obtain rfl : t169 = tz34 := Option.some.inj (A26.out.symm.trans az35)
                clear az35
                replace H : ((plaitinglaw1_Text.f k l4).bind fun t169 => (if t169.size + 1 ≤ 9223372036854775807 then (plaitinglaw2_CrcOpens.l0 k (([t166, t168, t163.extract 0 (t164 : Int).toNat, ((t163.extract 0 (t164 : Int).toNat) ++ t169) ++ (t163.extract (t164 : Int).toNat t163.size), t163 ++ t169, t169, a5, t169 ++ (⟨#[35]⟩ : ByteArray)] : List ByteArray)) 0) else (none))) = some r := H
                replace H := Option.bind_eq_some_iff.mp H
                obtain ⟨tz36, az37, H⟩ := H
                obtain rfl : t169 = tz36 := Option.some.inj (A26.out.symm.trans az37)
                clear az37
                replace H : (if t169.size + 1 ≤ 9223372036854775807 then (plaitinglaw2_CrcOpens.l0 k (([t166, t168, t163.extract 0 (t164 : Int).toNat, ((t163.extract 0 (t164 : Int).toNat) ++ t169) ++ (t163.extract (t164 : Int).toNat t163.size), t163 ++ t169, t169, a5, t169 ++ (⟨#[35]⟩ : ByteArray)] : List ByteArray)) 0) else (none)) = some r := H
                by_cases c38 : t169.size + 1 ≤ 9223372036854775807
                · rw [if_pos c38] at H
                  have c38b0 := eq_true c38
                  have c38b1 : decide (t169.size + 1 ≤ 9223372036854775807) = true := decide_eq_true c38
                  try have c38b2 : (9223372036854775807 < t169.size + 1) = False := eq_false (Nat.not_lt.2 c38)
                  obtain ⟨y170, hy170⟩ : ∃ y_ : List ByteArray, y_ = (([t166, t168, t163.extract 0 (t164 : Int).toNat, ((t163.extract 0 (t164 : Int).toNat) ++ t169) ++ (t163.extract (t164 : Int).toNat t163.size), t163 ++ t169, t169, a5, t169 ++ (⟨#[35]⟩ : ByteArray)] : List ByteArray)) := ⟨_, rfl⟩
                  replace H : (plaitinglaw2_CrcOpens.l0 k y170 0) = some r := by first | (rw [hy170]; with_reducible exact H) | (have H2_ := (Option.bind_some _ _).symm.trans H; rw [hy170]; with_reducible exact H2_) | (have H2_ := (Option.bind_some _ _).symm.trans H; with_reducible exact H2_) | with_reducible exact H | (rw [hy170]; exact H) | exact H
                  have Ny170 := Aside0.mk hy170
                  clear hy170
                  have H' := Aside0.mk H
                  clear H
                  go_enter Try.func16, Try.ntmps16
                  try go_wp2_with (first | ((with_reducible refine gate_callee (f := 33) rfl ?_); refine goesL_ (some 21) rfl rfl Try.func33 (by kernel_rfl) rfl #[] rfl (by (try simp only [List.map_toArray, List.map_cons, List.map_nil]); first | done | rfl | (simp only [List.length_drop, List.length_take]; rfl)) ?_; (with_reducible refine (plaitinglaw2_known.calls k  true _ A7.out).mono ?_); rintro e w39 ⟨rfl, hb⟩; refine ⟨_, rfl, ?_⟩; have n0_ := Aside0.mk (below_step (by repeat (first | (with_reducible first | exact HB.out | apply below_alloc | apply pw_below_drewN | apply below_drew1) | exact HB.out)) hb); clear HB; have HB := n0_; clear n0_; (try clear hb); (try clear hb2); (try clear hk); (try clear hi)) | ((with_reducible refine gate_callee (f := 49) rfl ?_); refine goesL_ (some 27) rfl rfl Try.func49 (by kernel_rfl) rfl #[.slice A0 l0.length c0] rfl (by (try simp only [List.map_toArray, List.map_cons, List.map_nil]); first | done | rfl | (simp only [List.length_drop, List.length_take]; rfl)) ?_; (with_reducible refine (plaitinglaw2_Bits.calls k _ _ l0 t162 _ ?side1 ?side2 A11.out).mono ?_); (case side1 => repeat (first | exact (Kd.C_below HR0.out HB.out) | (with_reducible refine Kd.C_alloc ?_ _) | (with_reducible refine Kd.C_drewN ?_ _) | (with_reducible refine Kd.C_drew ?_))); (case side2 => exact HC0.out); rintro e w' ⟨rfl, ⟨nd, rfl⟩⟩; refine ⟨_, rfl, ?_⟩) | ((with_reducible refine gate_callee (f := 53) rfl ?_); refine goesL_ (some 28) rfl rfl Try.func53 (by kernel_rfl) rfl #[.string t162] rfl (by (try simp only [List.map_toArray, List.map_cons, List.map_nil]); first | done | rfl | (simp only [List.length_drop, List.length_take]; rfl)) ?_; (with_reducible refine (plaitingref2_Wrap.calls k t162 t163 _ A12.out).mono ?_); rintro e w' ⟨rfl, ⟨nd, rfl⟩⟩; refine ⟨_, rfl, ?_⟩) | ((with_reducible refine gate_callee (f := 34) rfl ?_); refine goesL_ (some 33) rfl rfl Try.func34 (by kernel_rfl) rfl #[.int .i64 a3, .int .i64 (wrap64 ((t163.size : Int) + 1))] rfl (by (try simp only [List.map_toArray, List.map_cons, List.map_nil]); first | done | rfl | (simp only [List.length_drop, List.length_take]; rfl)) ?_; (with_reducible refine (plaitinglaw2_within.calls a3 (wrap64 ((t163.size : Int) + 1)) t164 _ A13.out).mono ?_); rintro e w' ⟨rfl, ⟨nd, rfl⟩⟩; refine ⟨_, rfl, ?_⟩))
                  (try (rw [drewN_self w39]; generalize hq_ : World.drewN w39 _ = w39; have n0_ : Aside0 (Below w.heap.size w w39) := ⟨by rw [← hq_]; exact (by repeat (first | (with_reducible first | exact HB.out | apply below_alloc | apply pw_below_drewN | apply below_drew1) | exact HB.out))⟩; clear HB hq_; have HB := n0_; clear n0_))
                  have n0_ := Aside0.mk (below_drew1 HB.out)
                  clear HB
                  have HB := n0_
                  clear n0_
                  refine start_ (n := 42) (S := fun w' => True) (ds := []) #[false, false, false, false, false, false, false, false, false, false, false, false, false, false, false, false, false, false, false, false, false, false, false, false, false, false, false, false, false, false, false, false, false, false, false, false, false, false, false, false, false, false] (by kernel_rfl) rfl rfl trivial (fun hHeld => ?_); refine with_tabW plaitinglaw2_CrcOpens.tab7 plaitinglaw2_CrcOpens.bits7 (fun HT_ HW_ => ?_)
                  generalize w39.drew = w40 at HB hHeld ⊢
                  refine pure_ (i := 0) (N := some 34) (v := ?_) (a' := ?_) #[true, false, false, false, false, false, false, false, false, false, false, false, false, false, false, false, false, false, false, false, false, false, false, false, false, false, false, false, false, false, false, false, false, false, false, false, false, false, false, false, false, false] rfl rfl (any_of HT_.out (by kernel_rfl)) (fun _ _ _ h => h) (Or.inl ⟨by rfl, ?_⟩) ?_ ?_
                  rotate_left
                  · intro w'
                    go_simp
                    with_reducible rfl
                  rotate_left
                  · simp only [Act.put, List.setIfInBounds_toArray, List.set_cons_zero, List.set_cons_succ, i64_w, i32_w]
                    rfl
                  refine pure_ (i := 1) (N := some 35) (v := ?_) (a' := ?_) #[true, true, false, false, false, false, false, false, false, false, false, false, false, false, false, false, false, false, false, false, false, false, false, false, false, false, false, false, false, false, false, false, false, false, false, false, false, false, false, false, false, false] rfl rfl (any_of HT_.out (by kernel_rfl)) (fun _ _ _ h => h) (Or.inl ⟨by rfl, ?_⟩) ?_ ?_
                  rotate_left
                  · intro w'
                    go_simp
                    with_reducible rfl
                  rotate_left
                  · simp only [Act.put, List.setIfInBounds_toArray, List.set_cons_zero, List.set_cons_succ, i64_w, i32_w]
                    rfl
                  refine pure_ (i := 2) (N := some 36) (v := ?_) (a' := ?_) #[true, true, true, false, false, false, false, false, false, false, false, false, false, false, false, false, false, false, false, false, false, false, false, false, false, false, false, false, false, false, false, false, false, false, false, false, false, false, false, false, false, false] rfl rfl (any_of HT_.out (by kernel_rfl)) (fun _ _ _ h => h) (Or.inl ⟨by rfl, ?_⟩) ?_ ?_
                  rotate_left
                  · intro w'
                    go_simp
                    with_reducible rfl
                  rotate_left
                  · simp only [Act.put, List.setIfInBounds_toArray, List.set_cons_zero, List.set_cons_succ, i64_w, i32_w]
                    rfl
                  refine pure_ (i := 3) (N := some 37) (v := ?_) (a' := ?_) #[true, true, true, true, false, false, false, false, false, false, false, false, false, false, false, false, false, false, false, false, false, false, false, false, false, false, false, false, false, false, false, false, false, false, false, false, false, false, false, false, false, false] rfl rfl (any_of HT_.out (by kernel_rfl)) (fun _ _ _ h => h) (Or.inl ⟨by rfl, ?_⟩) ?_ ?_
                  rotate_left
                  · intro w'
                    go_simp
                    with_reducible rfl
                  rotate_left
                  · simp only [Act.put, List.setIfInBounds_toArray, List.set_cons_zero, List.set_cons_succ, i64_w, i32_w]
                    rfl
                  refine pure_ (i := 6) (N := some 40) (v := ?_) (a' := ?_) #[true, true, true, true, false, false, true, false, false, false, false, false, false, false, false, false, false, false, false, false, false, false, false, false, false, false, false, false, false, false, false, false, false, false, false, false, false, false, false, false, false, false] rfl rfl (any_of HT_.out (by kernel_rfl)) (fun _ _ _ h => h) (Or.inl ⟨by rfl, ?_⟩) ?_ ?_
                  rotate_left
                  · intro w'
                    go_simp
                    with_reducible rfl
                  rotate_left
                  · simp only [Act.put, List.setIfInBounds_toArray, List.set_cons_zero, List.set_cons_succ, i64_w, i32_w]
                    rfl
                  refine pure_ (i := 7) (N := some 41) (v := ?_) (a' := ?_) #[true, true, true, true, false, false, true, true, false, false, false, false, false, false, false, false, false, false, false, false, false, false, false, false, false, false, false, false, false, false, false, false, false, false, false, false, false, false, false, false, false, false] rfl rfl (any_of HT_.out (by kernel_rfl)) (fun _ _ _ h => h) (Or.inl ⟨by rfl, ?_⟩) ?_ ?_
                  rotate_left
                  · intro w'
                    go_simp
                    with_reducible rfl
                  rotate_left
                  · simp only [Act.put, List.setIfInBounds_toArray, List.set_cons_zero, List.set_cons_succ, i64_w, i32_w]
                    rfl
                  refine pure_ (i := 8) (N := some 42) (v := ?_) (a' := ?_) #[true, true, true, true, false, false, true, true, true, false, false, false, false, false, false, false, false, false, false, false, false, false, false, false, false, false, false, false, false, false, false, false, false, false, false, false, false, false, false, false, false, false] rfl rfl (any_of HT_.out (by kernel_rfl)) (fun _ _ _ h => h) (Or.inl ⟨by rfl, ?_⟩) ?_ ?_
                  rotate_left
                  · intro w'
                    go_simp
                    with_reducible rfl
                  rotate_left
                  · simp only [Act.put, List.setIfInBounds_toArray, List.set_cons_zero, List.set_cons_succ, i64_w, i32_w]
                    rfl
                  refine pure_ (i := 9) (N := some 43) (v := ?_) (a' := ?_) #[true, true, true, true, false, false, true, true, true, true, false, false, false, false, false, false, false, false, false, false, false, false, false, false, false, false, false, false, false, false, false, false, false, false, false, false, false, false, false, false, false, false] rfl rfl (any_of HT_.out (by kernel_rfl)) (fun _ _ _ h => h) (Or.inl ⟨by rfl, ?_⟩) ?_ ?_
                  rotate_left
                  · intro w'
                    go_simp
                    with_reducible rfl
                  rotate_left
                  · simp only [Act.put, List.setIfInBounds_toArray, List.set_cons_zero, List.set_cons_succ, i64_w, i32_w]
                    rfl
                  refine pure_ (i := 12) (N := some 46) (v := ?_) (a' := ?_) #[true, true, true, true, false, false, true, true, true, true, false, false, true, false, false, false, false, false, false, false, false, false, false, false, false, false, false, false, false, false, false, false, false, false, false, false, false, false, false, false, false, false] rfl rfl (any_of HT_.out (by kernel_rfl)) (fun _ _ _ h => h) (Or.inl ⟨by rfl, ?_⟩) ?_ ?_
                  rotate_left
                  · intro w'
                    go_simp
                    with_reducible rfl
                  rotate_left
                  · simp only [Act.put, List.setIfInBounds_toArray, List.set_cons_zero, List.set_cons_succ, i64_w, i32_w]
                    rfl
                  refine pure_ (i := 13) (N := some 47) (v := ?_) (a' := ?_) #[true, true, true, true, false, false, true, true, true, true, false, false, true, true, false, false, false, false, false, false, false, false, false, false, false, false, false, false, false, false, false, false, false, false, false, false, false, false, false, false, false, false] rfl rfl (any_of HT_.out (by kernel_rfl)) (fun _ _ _ h => h) (Or.inl ⟨by rfl, ?_⟩) ?_ ?_
                  rotate_left
                  · intro w'
                    go_simp
                    with_reducible rfl
                  rotate_left
                  · simp only [Act.put, List.setIfInBounds_toArray, List.set_cons_zero, List.set_cons_succ, i64_w, i32_w]
                    rfl
                  refine pure_ (i := 14) (N := some 48) (v := ?_) (a' := ?_) #[true, true, true, true, false, false, true, true, true, true, false, false, true, true, true, false, false, false, false, false, false, false, false, false, false, false, false, false, false, false, false, false, false, false, false, false, false, false, false, false, false, false] rfl rfl (any_of HT_.out (by kernel_rfl)) (fun _ _ _ h => h) (Or.inl ⟨by rfl, ?_⟩) ?_ ?_
                  rotate_left
                  · intro w'
                    go_simp
                    with_reducible rfl
                  rotate_left
                  · simp only [Act.put, List.setIfInBounds_toArray, List.set_cons_zero, List.set_cons_succ, i64_w, i32_w]
                    rfl
                  refine pure_ (i := 17) (N := some 51) (v := ?_) (a' := ?_) #[true, true, true, true, false, false, true, true, true, true, false, false, true, true, true, false, false, true, false, false, false, false, false, false, false, false, false, false, false, false, false, false, false, false, false, false, false, false, false, false, false, false] rfl rfl (any_of HT_.out (by kernel_rfl)) (fun _ _ _ h => h) (Or.inl ⟨by rfl, ?_⟩) ?_ ?_
                  rotate_left
                  · intro w'
                    go_simp
                    with_reducible rfl
                  rotate_left
                  · simp only [Act.put, List.setIfInBounds_toArray, List.set_cons_zero, List.set_cons_succ, i64_w, i32_w]
                    rfl
                  refine pure_ (i := 18) (N := some 52) (v := ?_) (a' := ?_) #[true, true, true, true, false, false, true, true, true, true, false, false, true, true, true, false, false, true, true, false, false, false, false, false, false, false, false, false, false, false, false, false, false, false, false, false, false, false, false, false, false, false] rfl rfl (any_of HT_.out (by kernel_rfl)) (fun _ _ _ h => h) (Or.inl ⟨by rfl, ?_⟩) ?_ ?_
                  rotate_left
                  · intro w'
                    go_simp
                    with_reducible rfl
                  rotate_left
                  · simp only [Act.put, List.setIfInBounds_toArray, List.set_cons_zero, List.set_cons_succ, i64_w, i32_w]
                    rfl
                  refine pure_ (i := 19) (N := some 53) (v := ?_) (a' := ?_) #[true, true, true, true, false, false, true, true, true, true, false, false, true, true, true, false, false, true, true, true, false, false, false, false, false, false, false, false, false, false, false, false, false, false, false, false, false, false, false, false, false, false] rfl rfl (any_of HT_.out (by kernel_rfl)) (fun _ _ _ h => h) (Or.inl ⟨by rfl, ?_⟩) ?_ ?_
                  rotate_left
                  · intro w'
                    go_simp
                    with_reducible rfl
                  rotate_left
                  · simp only [Act.put, List.setIfInBounds_toArray, List.set_cons_zero, List.set_cons_succ, i64_w, i32_w]
                    rfl
                  refine pure_ (i := 20) (N := some 54) (v := ?_) (a' := ?_) #[true, true, true, true, false, false, true, true, true, true, false, false, true, true, true, false, false, true, true, true, true, false, false, false, false, false, false, false, false, false, false, false, false, false, false, false, false, false, false, false, false, false] rfl rfl (any_of HT_.out (by kernel_rfl)) (fun _ _ _ h => h) (Or.inl ⟨by rfl, ?_⟩) ?_ ?_
                  rotate_left
                  · intro w'
                    go_simp
                    with_reducible rfl
                  rotate_left
                  · simp only [Act.put, List.setIfInBounds_toArray, List.set_cons_zero, List.set_cons_succ, i64_w, i32_w]
                    rfl
                  refine pure_ (i := 21) (N := some 55) (v := ?_) (a' := ?_) #[true, true, true, true, false, false, true, true, true, true, false, false, true, true, true, false, false, true, true, true, true, true, false, false, false, false, false, false, false, false, false, false, false, false, false, false, false, false, false, false, false, false] rfl rfl (any_of HT_.out (by kernel_rfl)) (fun _ _ _ h => h) (Or.inl ⟨by rfl, ?_⟩) ?_ ?_
                  rotate_left
                  · intro w'
                    go_simp
                    with_reducible rfl
                  rotate_left
                  · simp only [Act.put, List.setIfInBounds_toArray, List.set_cons_zero, List.set_cons_succ, i64_w, i32_w]
                    rfl
                  refine pure_ (i := 22) (N := some 56) (v := ?_) (a' := ?_) #[true, true, true, true, false, false, true, true, true, true, false, false, true, true, true, false, false, true, true, true, true, true, true, false, false, false, false, false, false, false, false, false, false, false, false, false, false, false, false, false, false, false] rfl rfl (any_of HT_.out (by kernel_rfl)) (fun _ _ _ h => h) (Or.inl ⟨by rfl, ?_⟩) ?_ ?_
                  rotate_left
                  · intro w'
                    go_simp
                    with_reducible rfl
                  rotate_left
                  · simp only [Act.put, List.setIfInBounds_toArray, List.set_cons_zero, List.set_cons_succ, i64_w, i32_w]
                    rfl
                  refine pure_ (i := 23) (N := some 57) (v := ?_) (a' := ?_) #[true, true, true, true, false, false, true, true, true, true, false, false, true, true, true, false, false, true, true, true, true, true, true, true, false, false, false, false, false, false, false, false, false, false, false, false, false, false, false, false, false, false] rfl rfl (any_of HT_.out (by kernel_rfl)) (fun _ _ _ h => h) (Or.inl ⟨by rfl, ?_⟩) ?_ ?_
                  rotate_left
                  · intro w'
                    go_simp
                    with_reducible rfl
                  rotate_left
                  · simp only [Act.put, List.setIfInBounds_toArray, List.set_cons_zero, List.set_cons_succ, i64_w, i32_w]
                    rfl
                  refine pure_ (i := 26) (N := some 60) (v := ?_) (a' := ?_) #[true, true, true, true, false, false, true, true, true, true, false, false, true, true, true, false, false, true, true, true, true, true, true, true, false, false, true, false, false, false, false, false, false, false, false, false, false, false, false, false, false, false] rfl rfl (any_of HT_.out (by kernel_rfl)) (fun _ _ _ h => h) (Or.inl ⟨by rfl, ?_⟩) ?_ ?_
                  rotate_left
                  · intro w'
                    go_simp
                    with_reducible rfl
                  rotate_left
                  · simp only [Act.put, List.setIfInBounds_toArray, List.set_cons_zero, List.set_cons_succ, i64_w, i32_w]
                    rfl
                  refine pure_ (i := 27) (N := some 61) (v := ?_) (a' := ?_) #[true, true, true, true, false, false, true, true, true, true, false, false, true, true, true, false, false, true, true, true, true, true, true, true, false, false, true, true, false, false, false, false, false, false, false, false, false, false, false, false, false, false] rfl rfl (any_of HT_.out (by kernel_rfl)) (fun _ _ _ h => h) (Or.inl ⟨by rfl, ?_⟩) ?_ ?_
                  rotate_left
                  · intro w'
                    go_simp
                    with_reducible rfl
                  rotate_left
                  · simp only [Act.put, List.setIfInBounds_toArray, List.set_cons_zero, List.set_cons_succ, i64_w, i32_w]
                    rfl
                  refine pure_ (i := 28) (N := some 62) (v := ?_) (a' := ?_) #[true, true, true, true, false, false, true, true, true, true, false, false, true, true, true, false, false, true, true, true, true, true, true, true, false, false, true, true, true, false, false, false, false, false, false, false, false, false, false, false, false, false] rfl rfl (any_of HT_.out (by kernel_rfl)) (fun _ _ _ h => h) (Or.inl ⟨by rfl, ?_⟩) ?_ ?_
                  rotate_left
                  · intro w'
                    go_simp
                    with_reducible rfl
                  rotate_left
                  · simp only [Act.put, List.setIfInBounds_toArray, List.set_cons_zero, List.set_cons_succ, i64_w, i32_w]
                    rfl
                  refine pure_ (i := 30) (N := some 64) (v := ?_) (a' := ?_) #[true, true, true, true, false, false, true, true, true, true, false, false, true, true, true, false, false, true, true, true, true, true, true, true, false, false, true, true, true, false, true, false, false, false, false, false, false, false, false, false, false, false] rfl rfl (any_of HT_.out (by kernel_rfl)) (fun _ _ _ h => h) (Or.inl ⟨by rfl, ?_⟩) ?_ ?_
                  rotate_left
                  · intro w'
                    go_simp
                    with_reducible rfl
                  rotate_left
                  · simp only [Act.put, List.setIfInBounds_toArray, List.set_cons_zero, List.set_cons_succ, i64_w, i32_w]
                    rfl
                  refine pure_ (i := 31) (N := some 65) (v := ?_) (a' := ?_) #[true, true, true, true, false, false, true, true, true, true, false, false, true, true, true, false, false, true, true, true, true, true, true, true, false, false, true, true, true, false, true, true, false, false, false, false, false, false, false, false, false, false] rfl rfl (any_of HT_.out (by kernel_rfl)) (fun _ _ _ h => h) (Or.inl ⟨by rfl, ?_⟩) ?_ ?_
                  rotate_left
                  · intro w'
                    go_simp
                    with_reducible rfl
                  rotate_left
                  · simp only [Act.put, List.setIfInBounds_toArray, List.set_cons_zero, List.set_cons_succ, i64_w, i32_w]
                    rfl
                  refine pure_ (i := 34) (N := some 68) (v := ?_) (a' := ?_) #[true, true, true, true, false, false, true, true, true, true, false, false, true, true, true, false, false, true, true, true, true, true, true, true, false, false, true, true, true, false, true, true, false, false, true, false, false, false, false, false, false, false] rfl rfl (any_of HT_.out (by kernel_rfl)) (fun _ _ _ h => h) (Or.inl ⟨by rfl, ?_⟩) ?_ ?_
                  rotate_left
                  · intro w'
                    go_simp
                    with_reducible rfl
                  rotate_left
                  · simp only [Act.put, List.setIfInBounds_toArray, List.set_cons_zero, List.set_cons_succ, i64_w, i32_w]
                    rfl
                  refine pure_ (i := 36) (N := some 70) (v := ?_) (a' := ?_) #[true, true, true, true, false, false, true, true, true, true, false, false, true, true, true, false, false, true, true, true, true, true, true, true, false, false, true, true, true, false, true, true, false, false, true, false, true, false, false, false, false, false] rfl rfl (any_of HT_.out (by kernel_rfl)) (fun _ _ _ h => h) (Or.inl ⟨by rfl, ?_⟩) ?_ ?_
                  rotate_left
                  · intro w'
                    go_simp
                    with_reducible rfl
                  rotate_left
                  · simp only [Act.put, List.setIfInBounds_toArray, List.set_cons_zero, List.set_cons_succ, i64_w, i32_w]
                    rfl
                  refine pure_ (i := 37) (N := some 71) (v := ?_) (a' := ?_) #[true, true, true, true, false, false, true, true, true, true, false, false, true, true, true, false, false, true, true, true, true, true, true, true, false, false, true, true, true, false, true, true, false, false, true, false, true, true, false, false, false, false] rfl rfl (any_of HT_.out (by kernel_rfl)) (fun _ _ _ h => h) (Or.inl ⟨by rfl, ?_⟩) ?_ ?_
                  rotate_left
                  · intro w'
                    go_simp
                    with_reducible rfl
                  rotate_left
                  · simp only [Act.put, List.setIfInBounds_toArray, List.set_cons_zero, List.set_cons_succ, i64_w, i32_w]
                    rfl
                  refine one_ (i := 4) (N := some 38) #[true, true, true, true, true, false, true, true, true, true, false, false, true, true, true, false, false, true, true, true, true, true, true, true, false, false, true, true, true, false, true, true, false, false, true, false, true, true, false, false, false, false] rfl rfl (one_of HT_.out (by kernel_rfl)) (by decide) (fun K hK => ?_)
                  refine goes_ Try.func34 (by kernel_rfl) rfl #[.int .i64 a1, .int .i64 (t163.size : Int)] (by rfl) rfl rfl (by (try simp only [List.map_toArray, List.map_cons, List.map_nil]); first | done | rfl | (simp only [List.length_drop, List.length_take]; rfl)) ?_
                  with_reducible refine (plaitinglaw2_within.calls a1 (t163.size : Int) t165 _ A14.out).mono ?_
                  rintro e w' ⟨rfl, ⟨nd, rfl⟩⟩
                  refine ⟨_, rfl, ?_⟩
                  refine hK.out _ _ trivial (fun hHeld => ?_)
                  clear hK K
                  refine norm_ (a' := ?_) ?_ ?_
                  rotate_left
                  · show Act.put _ (some 38) _ = _
                    simp only [Act.put, List.setIfInBounds_toArray, List.set_cons_zero, List.set_cons_succ, i64_w, i32_w]
                    rfl
                  refine one_ (i := 5) (N := some 39) #[true, true, true, true, true, true, true, true, true, true, false, false, true, true, true, false, false, true, true, true, true, true, true, true, false, false, true, true, true, false, true, true, false, false, true, false, true, true, false, false, false, false] rfl rfl (one_of HT_.out (by kernel_rfl)) (by decide) (fun K hK => ?_)
                  refine goes_ Try.func54 (by kernel_rfl) rfl #[.string t163, .int .i64 t165] (by rfl) rfl rfl (by (try simp only [List.map_toArray, List.map_cons, List.map_nil]); first | done | rfl | (simp only [List.length_drop, List.length_take]; rfl)) ?_
                  with_reducible refine (plaitingref1_Turn.calls k t163 t165 t166 _ A15.out).mono ?_
                  rintro e w' ⟨rfl, ⟨nd, rfl⟩⟩
                  refine ⟨_, rfl, ?_⟩
                  refine hK.out _ _ trivial (fun hHeld => ?_)
                  clear hK K
                  refine norm_ (a' := ?_) ?_ ?_
                  rotate_left
                  · show Act.put _ (some 39) _ = _
                    simp only [Act.put, List.setIfInBounds_toArray, List.set_cons_zero, List.set_cons_succ, i64_w, i32_w]
                    rfl
                  refine one_ (i := 10) (N := some 44) #[true, true, true, true, true, true, true, true, true, true, true, false, true, true, true, false, false, true, true, true, true, true, true, true, false, false, true, true, true, false, true, true, false, false, true, false, true, true, false, false, false, false] rfl rfl (one_of HT_.out (by kernel_rfl)) (by decide) (fun K hK => ?_)
                  refine goes_ Try.func34 (by kernel_rfl) rfl #[.int .i64 a1, .int .i64 (t163.size : Int)] (by rfl) rfl rfl (by (try simp only [List.map_toArray, List.map_cons, List.map_nil]); first | done | rfl | (simp only [List.length_drop, List.length_take]; rfl)) ?_
                  with_reducible refine (plaitinglaw2_within.calls a1 (t163.size : Int) t165 _ A14.out).mono ?_
                  rintro e w' ⟨rfl, ⟨nd, rfl⟩⟩
                  refine ⟨_, rfl, ?_⟩
                  refine hK.out _ _ trivial (fun hHeld => ?_)
                  clear hK K
                  refine norm_ (a' := ?_) ?_ ?_
                  rotate_left
                  · show Act.put _ (some 44) _ = _
                    simp only [Act.put, List.setIfInBounds_toArray, List.set_cons_zero, List.set_cons_succ, i64_w, i32_w]
                    rfl
                  refine one_ (i := 11) (N := some 45) #[true, true, true, true, true, true, true, true, true, true, true, true, true, true, true, false, false, true, true, true, true, true, true, true, false, false, true, true, true, false, true, true, false, false, true, false, true, true, false, false, false, false] rfl rfl (one_of HT_.out (by kernel_rfl)) (by decide) (fun K hK => ?_)
                  refine goes_ Try.func54 (by kernel_rfl) rfl #[.string t163, .int .i64 t165] (by rfl) rfl rfl (by (try simp only [List.map_toArray, List.map_cons, List.map_nil]); first | done | rfl | (simp only [List.length_drop, List.length_take]; rfl)) ?_
                  with_reducible refine (plaitingref1_Turn.calls k t163 t165 t166 _ A15.out).mono ?_
                  rintro e w' ⟨rfl, ⟨nd, rfl⟩⟩
                  refine ⟨_, rfl, ?_⟩
                  refine hK.out _ _ trivial (fun hHeld => ?_)
                  clear hK K
                  refine norm_ (a' := ?_) ?_ ?_
                  rotate_left
                  · show Act.put _ (some 45) _ = _
                    simp only [Act.put, List.setIfInBounds_toArray, List.set_cons_zero, List.set_cons_succ, i64_w, i32_w]
                    rfl
                  refine one_ (i := 15) (N := some 49) #[true, true, true, true, true, true, true, true, true, true, true, true, true, true, true, true, false, true, true, true, true, true, true, true, false, false, true, true, true, false, true, true, false, false, true, false, true, true, false, false, false, false] rfl rfl (one_of HT_.out (by kernel_rfl)) (by decide) (fun K hK => ?_)
                  refine goes_ Try.func34 (by kernel_rfl) rfl #[.int .i64 a2, .int .i64 (t163.size : Int)] (by rfl) rfl rfl (by (try simp only [List.map_toArray, List.map_cons, List.map_nil]); first | done | rfl | (simp only [List.length_drop, List.length_take]; rfl)) ?_
                  with_reducible refine (plaitinglaw2_within.calls a2 (t163.size : Int) t167 _ A20.out).mono ?_
                  rintro e w' ⟨rfl, ⟨nd, rfl⟩⟩
                  refine ⟨_, rfl, ?_⟩
                  refine hK.out _ _ trivial (fun hHeld => ?_)
                  clear hK K
                  refine norm_ (a' := ?_) ?_ ?_
                  rotate_left
                  · show Act.put _ (some 49) _ = _
                    simp only [Act.put, List.setIfInBounds_toArray, List.set_cons_zero, List.set_cons_succ, i64_w, i32_w]
                    rfl
                  refine one_ (i := 16) (N := some 50) #[true, true, true, true, true, true, true, true, true, true, true, true, true, true, true, true, true, true, true, true, true, true, true, true, false, false, true, true, true, false, true, true, false, false, true, false, true, true, false, false, false, false] rfl rfl (one_of HT_.out (by kernel_rfl)) (by decide) (fun K hK => ?_)
                  refine goes_ Try.func54 (by kernel_rfl) rfl #[.string t166, .int .i64 t167] (by rfl) rfl rfl (by (try simp only [List.map_toArray, List.map_cons, List.map_nil]); first | done | rfl | (simp only [List.length_drop, List.length_take]; rfl)) ?_
                  with_reducible refine (plaitingref1_Turn.calls k t166 t167 t168 _ A21.out).mono ?_
                  rintro e w' ⟨rfl, ⟨nd, rfl⟩⟩
                  refine ⟨_, rfl, ?_⟩
                  refine hK.out _ _ trivial (fun hHeld => ?_)
                  clear hK K
                  refine norm_ (a' := ?_) ?_ ?_
                  rotate_left
                  · show Act.put _ (some 50) _ = _
                    simp only [Act.put, List.setIfInBounds_toArray, List.set_cons_zero, List.set_cons_succ, i64_w, i32_w]
                    rfl
                  refine one_ (i := 24) (N := some 58) #[true, true, true, true, true, true, true, true, true, true, true, true, true, true, true, true, true, true, true, true, true, true, true, true, true, false, true, true, true, false, true, true, false, false, true, false, true, true, false, false, false, false] rfl rfl (one_of HT_.out (by kernel_rfl)) (by decide) (fun K hK => ?_)
                  refine goes_ Try.func39 (by kernel_rfl) rfl #[.slice A4 l4.length c4] (by rfl) rfl rfl (by (try simp only [List.map_toArray, List.map_cons, List.map_nil]); first | done | rfl | (simp only [List.length_drop, List.length_take]; rfl)) ?_
                  with_reducible refine (plaitinglaw1_Text.calls k _ _ l4 t169 _ ?side1 ?side2 A26.out).mono ?_
                  (case side1 => repeat (first | exact (Kd.C_below HR4.out (by repeat (first | (with_reducible first | exact HB.out | apply below_alloc | apply pw_below_drewN | apply below_drew1) | exact HB.out))) | (with_reducible refine Kd.C_alloc ?_ _) | (with_reducible refine Kd.C_drewN ?_ _) | (with_reducible refine Kd.C_drew ?_)))
                  (case side2 => exact HC4.out)
                  rintro e w41 ⟨rfl, hb⟩
                  refine ⟨_, rfl, ?_⟩
                  have n0_ := Aside0.mk (below_step (by repeat (first | (with_reducible first | exact HB.out | apply below_alloc | apply pw_below_drewN | apply below_drew1) | exact HB.out)) hb)
                  clear HB
                  have HB := n0_
                  clear n0_
                  (try clear hb)
                  (try clear hb2)
                  (try clear hk)
                  (try clear hi)
                  refine hK.out _ _ trivial (fun hHeld => ?_)
                  clear hK K
                  refine norm_ (a' := ?_) ?_ ?_
                  rotate_left
                  · show Act.put _ (some 58) _ = _
                    simp only [Act.put, List.setIfInBounds_toArray, List.set_cons_zero, List.set_cons_succ, i64_w, i32_w]
                    rfl
                  refine pure_ (i := 25) (N := some 59) (v := ?_) (a' := ?_) #[true, true, true, true, true, true, true, true, true, true, true, true, true, true, true, true, true, true, true, true, true, true, true, true, true, true, true, true, true, false, true, true, false, false, true, false, true, true, false, false, false, false] rfl rfl (any_of HT_.out (by kernel_rfl)) (fun _ _ _ h => h) (Or.inl ⟨by rfl, ?_⟩) ?_ ?_
                  rotate_left
                  · intro w'
                    go_simp
                    with_reducible rfl
                  rotate_left
                  · simp only [Act.put, List.setIfInBounds_toArray, List.set_cons_zero, List.set_cons_succ, i64_w, i32_w]
                    rfl
                  refine pure_ (i := 29) (N := some 63) (v := ?_) (a' := ?_) #[true, true, true, true, true, true, true, true, true, true, true, true, true, true, true, true, true, true, true, true, true, true, true, true, true, true, true, true, true, true, true, true, false, false, true, false, true, true, false, false, false, false] rfl rfl (any_of HT_.out (by kernel_rfl)) (fun _ _ _ h => h) (Or.inl ⟨by rfl, ?_⟩) ?_ ?_
                  rotate_left
                  · intro w'
                    go_simp
                    with_reducible rfl
                  rotate_left
                  · simp only [Act.put, List.setIfInBounds_toArray, List.set_cons_zero, List.set_cons_succ, i64_w, i32_w]
                    rfl
                  refine one_ (i := 32) (N := some 66) #[true, true, true, true, true, true, true, true, true, true, true, true, true, true, true, true, true, true, true, true, true, true, true, true, true, true, true, true, true, true, true, true, true, false, true, false, true, true, false, false, false, false] rfl rfl (one_of HT_.out (by kernel_rfl)) (by decide) (fun K hK => ?_)
                  refine goes_ Try.func39 (by kernel_rfl) rfl #[.slice A4 l4.length c4] (by rfl) rfl rfl (by (try simp only [List.map_toArray, List.map_cons, List.map_nil]); first | done | rfl | (simp only [List.length_drop, List.length_take]; rfl)) ?_
                  with_reducible refine (plaitinglaw1_Text.calls k _ _ l4 t169 _ ?side1 ?side2 A26.out).mono ?_
                  (case side1 => repeat (first | exact (Kd.C_below HR4.out HB.out) | (with_reducible refine Kd.C_alloc ?_ _) | (with_reducible refine Kd.C_drewN ?_ _) | (with_reducible refine Kd.C_drew ?_)))
                  (case side2 => exact HC4.out)
                  rintro e w42 ⟨rfl, hb⟩
                  refine ⟨_, rfl, ?_⟩
                  have n0_ := Aside0.mk (below_step (by repeat (first | (with_reducible first | exact HB.out | apply below_alloc | apply pw_below_drewN | apply below_drew1) | exact HB.out)) hb)
                  clear HB
                  have HB := n0_
                  clear n0_
                  (try clear hb)
                  (try clear hb2)
                  (try clear hk)
                  (try clear hi)
                  refine hK.out _ _ trivial (fun hHeld => ?_)
                  clear hK K
                  refine norm_ (a' := ?_) ?_ ?_
                  rotate_left
                  · show Act.put _ (some 66) _ = _
                    simp only [Act.put, List.setIfInBounds_toArray, List.set_cons_zero, List.set_cons_succ, i64_w, i32_w]
                    rfl
                  refine pure_ (i := 33) (N := some 67) (v := ?_) (a' := ?_) #[true, true, true, true, true, true, true, true, true, true, true, true, true, true, true, true, true, true, true, true, true, true, true, true, true, true, true, true, true, true, true, true, true, true, true, false, true, true, false, false, false, false] rfl rfl (any_of HT_.out (by kernel_rfl)) (fun _ _ _ h => h) (Or.inl ⟨by rfl, ?_⟩) ?_ ?_
                  rotate_left
                  · intro w'
                    go_simp
                    with_reducible rfl
                  rotate_left
                  · simp only [Act.put, List.setIfInBounds_toArray, List.set_cons_zero, List.set_cons_succ, i64_w, i32_w]
                    rfl
                  refine one_ (i := 35) (N := some 69) #[true, true, true, true, true, true, true, true, true, true, true, true, true, true, true, true, true, true, true, true, true, true, true, true, true, true, true, true, true, true, true, true, true, true, true, true, true, true, false, false, false, false] rfl rfl (one_of HT_.out (by kernel_rfl)) (by decide) (fun K hK => ?_)
                  refine goes_ Try.func39 (by kernel_rfl) rfl #[.slice A4 l4.length c4] (by rfl) rfl rfl (by (try simp only [List.map_toArray, List.map_cons, List.map_nil]); first | done | rfl | (simp only [List.length_drop, List.length_take]; rfl)) ?_
                  with_reducible refine (plaitinglaw1_Text.calls k _ _ l4 t169 _ ?side1 ?side2 A26.out).mono ?_
                  (case side1 => repeat (first | exact (Kd.C_below HR4.out HB.out) | (with_reducible refine Kd.C_alloc ?_ _) | (with_reducible refine Kd.C_drewN ?_ _) | (with_reducible refine Kd.C_drew ?_)))
                  (case side2 => exact HC4.out)
                  rintro e w43 ⟨rfl, hb⟩
                  refine ⟨_, rfl, ?_⟩
                  have n0_ := Aside0.mk (below_step (by repeat (first | (with_reducible first | exact HB.out | apply below_alloc | apply pw_below_drewN | apply below_drew1) | exact HB.out)) hb)
                  clear HB
                  have HB := n0_
                  clear n0_
                  (try clear hb)
                  (try clear hb2)
                  (try clear hk)
                  (try clear hi)
                  refine hK.out _ _ trivial (fun hHeld => ?_)
                  clear hK K
                  refine norm_ (a' := ?_) ?_ ?_
                  rotate_left
                  · show Act.put _ (some 69) _ = _
                    simp only [Act.put, List.setIfInBounds_toArray, List.set_cons_zero, List.set_cons_succ, i64_w, i32_w]
                    rfl
                  refine one_ (i := 38) (N := some 72) #[true, true, true, true, true, true, true, true, true, true, true, true, true, true, true, true, true, true, true, true, true, true, true, true, true, true, true, true, true, true, true, true, true, true, true, true, true, true, true, false, false, false] rfl rfl (one_of HT_.out (by kernel_rfl)) (by decide) (fun K hK => ?_)
                  refine goes_ Try.func39 (by kernel_rfl) rfl #[.slice A4 l4.length c4] (by rfl) rfl rfl (by (try simp only [List.map_toArray, List.map_cons, List.map_nil]); first | done | rfl | (simp only [List.length_drop, List.length_take]; rfl)) ?_
                  with_reducible refine (plaitinglaw1_Text.calls k _ _ l4 t169 _ ?side1 ?side2 A26.out).mono ?_
                  (case side1 => repeat (first | exact (Kd.C_below HR4.out HB.out) | (with_reducible refine Kd.C_alloc ?_ _) | (with_reducible refine Kd.C_drewN ?_ _) | (with_reducible refine Kd.C_drew ?_)))
                  (case side2 => exact HC4.out)
                  rintro e w44 ⟨rfl, hb⟩
                  refine ⟨_, rfl, ?_⟩
                  have n0_ := Aside0.mk (below_step (by repeat (first | (with_reducible first | exact HB.out | apply below_alloc | apply pw_below_drewN | apply below_drew1) | exact HB.out)) hb)
                  clear HB
                  have HB := n0_
                  clear n0_
                  (try clear hb)
                  (try clear hb2)
                  (try clear hk)
                  (try clear hi)
                  refine hK.out _ _ trivial (fun hHeld => ?_)
                  clear hK K
                  refine norm_ (a' := ?_) ?_ ?_
                  rotate_left
                  · show Act.put _ (some 72) _ = _
                    simp only [Act.put, List.setIfInBounds_toArray, List.set_cons_zero, List.set_cons_succ, i64_w, i32_w]
                    rfl
                  refine pure_ (i := 39) (N := some 73) (v := ?_) (a' := ?_) #[true, true, true, true, true, true, true, true, true, true, true, true, true, true, true, true, true, true, true, true, true, true, true, true, true, true, true, true, true, true, true, true, true, true, true, true, true, true, true, true, false, false] rfl rfl (any_of HT_.out (by kernel_rfl)) (fun _ _ _ h => h) (Or.inl ⟨by rfl, ?_⟩) ?_ ?_
                  rotate_left
                  · intro w'
                    go_simp
                    with_reducible rfl
                  rotate_left
                  · simp only [Act.put, List.setIfInBounds_toArray, List.set_cons_zero, List.set_cons_succ, i64_w, i32_w]
                    rfl
                  refine one_ (i := 40) (N := some 74) #[true, true, true, true, true, true, true, true, true, true, true, true, true, true, true, true, true, true, true, true, true, true, true, true, true, true, true, true, true, true, true, true, true, true, true, true, true, true, true, true, true, false] rfl rfl (one_of HT_.out (by kernel_rfl)) (by decide) (fun K hK => ?_)
                  refine Kd.R_lit_step Kd.string _ 9 ?hg (N := 74) ?hd (xs := ([t166, t168, t163.extract 0 (t164 : Int).toNat, ((t163.extract 0 (t164 : Int).toNat) ++ t169) ++ (t163.extract (t164 : Int).toNat t163.size), t163 ++ t169, t169, a5, t169 ++ (⟨#[35]⟩ : ByteArray)] : List ByteArray)) (inner := [.string t166, .string t168, .string (t163.extract 0 (t164 : Int).toNat), .string (((t163.extract 0 (t164 : Int).toNat) ++ t169) ++ (t163.extract (t164 : Int).toNat t163.size)), .string (t163 ++ t169), .string t169, .string a5, .string (t169 ++ (⟨#[35]⟩ : ByteArray))]) (ok := fun _ => True) (okp := fun _ => True) ?hr ?hp (fun _ hk => hk) trivial (Below.refl _ _) (Nat.le_refl _) (by simp) ?_; (case hd => rfl); (case hg => rfl); (case hr => first | (go_simp; done) | (go_simp; rfl)); (case hp => exact (Reps.one (show Kd.M Kd.string _ _ _ t166 [.string t166] from rfl) (Reps.one (show Kd.M Kd.string _ _ _ t168 [.string t168] from rfl) (Reps.one (show Kd.M Kd.string _ _ _ (t163.extract 0 (t164 : Int).toNat) [.string (t163.extract 0 (t164 : Int).toNat)] from rfl) (Reps.one (show Kd.M Kd.string _ _ _ (((t163.extract 0 (t164 : Int).toNat) ++ t169) ++ (t163.extract (t164 : Int).toNat t163.size)) [.string (((t163.extract 0 (t164 : Int).toNat) ++ t169) ++ (t163.extract (t164 : Int).toNat t163.size))] from rfl) (Reps.one (show Kd.M Kd.string _ _ _ (t163 ++ t169) [.string (t163 ++ t169)] from rfl) (Reps.one (show Kd.M Kd.string _ _ _ t169 [.string t169] from rfl) (Reps.one (show Kd.M Kd.string _ _ _ a5 [.string a5] from rfl) (Reps.one (show Kd.M Kd.string _ _ _ (t169 ++ (⟨#[35]⟩ : ByteArray)) [.string (t169 ++ (⟨#[35]⟩ : ByteArray))] from rfl) (Reps.none _ _))))))))))
                  intro v171 w45 ho46 hb hg_ hnew_
                  clear hg_ hnew_
                  (first | rw [← Ny170.out] at ho46 | (simp only [Int.reduceToNat] at ho46; rw [← Ny170.out] at ho46))
                  have n0_ := Aside0.mk (Kd.R_lower ho46 (below_size (by repeat (first | (with_reducible first | exact HB.out | apply below_alloc | apply pw_below_drewN | apply below_drew1) | exact HB.out))))
                  have n1_ := Aside0.mk (below_step (by repeat (first | (with_reducible first | exact HB.out | apply below_alloc | apply pw_below_drewN | apply below_drew1) | exact HB.out)) hb)
                  clear HB
                  have HO172 := n0_
                  have HB := n1_
                  clear n0_ n1_
                  clear hb ho46
                  refine hK.out _ _ trivial (fun hHeld => ?_)
                  clear hK K
                  refine norm_ (a' := ?_) ?_ ?_
                  rotate_left
                  · show Act.put _ (some 74) _ = _
                    simp only [Act.put, List.setIfInBounds_toArray, List.set_cons_zero, List.set_cons_succ, i64_w, i32_w]
                    rfl
                  refine pure_ (i := 41) (N := some 15) (v := ?_) (a' := ?_) #[true, true, true, true, true, true, true, true, true, true, true, true, true, true, true, true, true, true, true, true, true, true, true, true, true, true, true, true, true, true, true, true, true, true, true, true, true, true, true, true, true, true] rfl rfl (any_of HT_.out (by kernel_rfl)) (fun _ _ _ h => h) (Or.inl ⟨by rfl, ?_⟩) ?_ ?_
                  rotate_left
                  · intro w'
                    go_simp
                    with_reducible rfl
                  rotate_left
                  · simp only [Act.put, List.setIfInBounds_toArray, List.set_cons_zero, List.set_cons_succ, i64_w, i32_w]
                    rfl
                  refine done_ (done_of HT_.out (by kernel_rfl)) ?_
                  try go_wp2
                  go_loopg [16] k (fun kq v16 w' => ∃ (x16_1 : Int), v16 = .int .i64 x16_1 ∧ Aside0 (plaitinglaw2_CrcOpens.l0 kq y170 x16_1 = some r) ∧ Aside0 (kq ≤ k) ∧ Aside0 (Kd.R Kd.string 9 w' w.heap.size (fun _ => True) v171 y170) ∧ Aside0 (Below w.heap.size w w'))
                  case atStart => exact ⟨(0), (by first | rfl | (simp; done) | (simp [*]; done)), H', ⟨Nat.le_refl _⟩, ⟨by (with_reducible repeat (first | apply Kd.R_alloc | apply Kd.R_drewN | apply Kd.R_drew)); exact HO172.out⟩, ⟨by repeat (first | (with_reducible first | exact HB.out | apply below_alloc | apply pw_below_drewN | apply below_drew1) | exact HB.out)⟩⟩
                  case round =>
                    clear H'
                    try clear c1
                    try clear c2
                    try clear p2
                    try clear c3
                    try clear c4
                    try clear c5
                    try clear p6
                    try clear c8
                    try clear c9
                    try clear c9b0
                    try clear c9b1
                    try clear c16
                    try clear c22
                    try clear c22b0
                    try clear c22b1
                    try clear c23
                    try clear c23b0
                    try clear c23b1
                    try clear c24
                    try clear c24b0
                    try clear c25
                    try clear c25b0
                    try clear c27
                    try clear c27b0
                    try clear c27b1
                    try clear c27b2
                    try clear c28
                    try clear c28b0
                    try clear c29
                    try clear c29b0
                    try clear c30
                    try clear c30b0
                    try clear c30b1
                    try clear c30b2
                    try clear c33
                    try clear c33b0
                    try clear c33b1
                    try clear c33b2
                    try clear c34
                    try clear c38
                    try clear c38b0
                    try clear c38b1
                    try clear c38b2
                    try clear c39
                    obtain ⟨x16_1, rfl, HA, HK1, HO_15, HB⟩ := hrel
                    cases gk with
                    | zero => exact absurd HA.out (by simp [plaitinglaw2_CrcOpens.l0])
                    | succ k1 =>
                      have H := HA.out
                      clear HA
                      simp only [plaitinglaw2_CrcOpens.l0] at H
                      by_cases c47 : x16_1 < (y170.length : Int)
                      · rw [if_pos c47] at H
                        have c47b0 : decide (x16_1 < (y170.length : Int)) = true := decide_eq_true c47
                        clear c47
                        by_cases c48 : 0 ≤ x16_1
                        · rw [if_pos c48] at H
                          have c48b0 : decide (0 ≤ x16_1) = true := decide_eq_true c48
                          clear c48
                          replace H := Option.bind_eq_some_iff.mp H
                          obtain ⟨⟨t174, t175⟩, A490, H⟩ := H
                          replace H : ((plaitingref2_Open.f k1 (rdOf ByteArray.empty y170 x16_1)).bind fun bt177 => (if t174.toList = bt177.1.toList then (if t175 = bt177.2 then (plaitinglaw2_CrcOpens.l0 k1 y170 (wrap64 (x16_1 + 1))) else (some false)) else (some false))) = some r := H
                          have A49 := Aside0.mk A490
                          clear A490
                          replace H := Option.bind_eq_some_iff.mp H
                          obtain ⟨⟨t177, t178⟩, A500, H⟩ := H
                          replace H : (if t174.toList = t177.toList then (if t175 = t178 then (plaitinglaw2_CrcOpens.l0 k1 y170 (wrap64 (x16_1 + 1))) else (some false)) else (some false)) = some r := H
                          have A50 := Aside0.mk A500
                          clear A500
                          by_cases c51 : t174.toList = t177.toList
                          · rw [if_pos c51] at H
                            have c51b0 : (t174.toList == t177.toList) = true := beq_iff_eq.mpr c51
                            have c51b1 : (t174.toList != t177.toList) = false := bne_eq_false_iff_eq.mpr c51
                            clear c51
                            by_cases c52 : t175 = t178
                            · rw [if_pos c52] at H
                              have c52b0 : (t175 == t178) = true := beq_iff_eq.mpr c52
                              have c52b1 : (t175 != t178) = false := bne_eq_false_iff_eq.mpr c52
                              clear c52
                              have H' := Aside0.mk H
                              clear H
                              obtain ⟨Ao53, co53, eo53⟩ := Kd.R_slice HO_15.out
                              subst eo53
                              have p173 : 0 ≤ (x16_1 : Int) := of_decide_eq_true (by first | (with_reducible assumption) | assumption)
                              have q173 : x16_1 < (y170.length : Int) := of_decide_eq_true (by first | (with_reducible assumption) | assumption)
                              obtain ⟨ad173, e173, hx173_0⟩ := Kd.at_string (Kd.R_reads' HO_15.out).2.2 x16_1 p173 q173
                              cases e173
                              replace p173 := eq_true p173
                              replace q173 := eq_true q173
                              go_wp2_with (first | ((with_reducible refine gate_callee (f := 51) rfl ?_); refine goesL_ (some 86) rfl rfl Try.func51 (by kernel_rfl) rfl #[.string (rdOf ByteArray.empty y170 x16_1)] rfl (by (try simp only [List.map_toArray, List.map_cons, List.map_nil]); first | done | rfl | (simp only [List.length_drop, List.length_take]; rfl)) ?_; (with_reducible refine (crc_Open.calls k1 (rdOf ByteArray.empty y170 x16_1) t174 t175 _ A49.out).mono ?_); rintro e w54 ⟨rfl, hb⟩; refine ⟨_, rfl, ?_⟩; have n0_ := Aside0.mk (Kd.R_below (by (with_reducible repeat (first | apply Kd.R_alloc | apply Kd.R_drewN | apply Kd.R_drew)); exact HO_15.out) hb); have n1_ := Aside0.mk (below_step (by repeat (first | (with_reducible first | exact HB.out | apply below_alloc | apply pw_below_drewN | apply below_drew1) | exact HB.out)) hb); clear HO_15; clear HB; have HO_15 := n0_; have HB := n1_; clear n0_ n1_; (try clear hb); (try clear hb2); (try clear hk); (try clear hi); have p176 : 0 ≤ (x16_1 : Int) := of_decide_eq_true (by first | (with_reducible assumption) | assumption); have q176 : x16_1 < (y170.length : Int) := of_decide_eq_true (by first | (with_reducible assumption) | assumption); obtain ⟨ad176, e176, hx176_0⟩ := Kd.at_string (Kd.R_reads' HO_15.out).2.2 x16_1 p176 q176; obtain rfl : ad173 = ad176 := (by injection e176); replace p176 := eq_true p176; replace q176 := eq_true q176) | ((with_reducible refine gate_callee (f := 55) rfl ?_); refine goesL_ (some 94) rfl rfl Try.func55 (by kernel_rfl) rfl #[.string (rdOf ByteArray.empty y170 x16_1)] rfl (by (try simp only [List.map_toArray, List.map_cons, List.map_nil]); first | done | rfl | (simp only [List.length_drop, List.length_take]; rfl)) ?_; (with_reducible refine (plaitingref2_Open.calls k1 (rdOf ByteArray.empty y170 x16_1) t177 t178 _ A50.out).mono ?_); rintro e w' ⟨rfl, ⟨nd, rfl⟩⟩; refine ⟨_, rfl, ?_⟩))
                              go_roundg k1
                              case measure => have := HK1.out; omega
                              case rel => exact ⟨(wrap64 (x16_1 + 1)), (by first | rfl | (simp; done) | (simp [*]; done)), H', ⟨by have := HK1.out; omega⟩, ⟨by (with_reducible repeat (first | apply Kd.R_alloc | apply Kd.R_drewN | apply Kd.R_drew)); exact HO_15.out⟩, ⟨by repeat (first | (with_reducible first | exact HB.out | apply below_alloc | apply pw_below_drewN | apply below_drew1) | exact HB.out)⟩⟩
                            · rw [if_neg c52] at H
                              have c52b0 : (t175 == t178) = false := beq_eq_false_iff_ne.mpr c52
                              have c52b1 : (t175 != t178) = true := bne_iff_ne.mpr c52
                              obtain rfl := Option.some.inj H
                              obtain ⟨Ao55, co55, eo55⟩ := Kd.R_slice HO_15.out
                              subst eo55
                              have p173 : 0 ≤ (x16_1 : Int) := of_decide_eq_true (by first | (with_reducible assumption) | assumption)
                              have q173 : x16_1 < (y170.length : Int) := of_decide_eq_true (by first | (with_reducible assumption) | assumption)
                              obtain ⟨ad173, e173, hx173_0⟩ := Kd.at_string (Kd.R_reads' HO_15.out).2.2 x16_1 p173 q173
                              cases e173
                              replace p173 := eq_true p173
                              replace q173 := eq_true q173
                              go_wp2_with (first | ((with_reducible refine gate_callee (f := 51) rfl ?_); refine goesL_ (some 86) rfl rfl Try.func51 (by kernel_rfl) rfl #[.string (rdOf ByteArray.empty y170 x16_1)] rfl (by (try simp only [List.map_toArray, List.map_cons, List.map_nil]); first | done | rfl | (simp only [List.length_drop, List.length_take]; rfl)) ?_; (with_reducible refine (crc_Open.calls k1 (rdOf ByteArray.empty y170 x16_1) t174 t175 _ A49.out).mono ?_); rintro e w56 ⟨rfl, hb⟩; refine ⟨_, rfl, ?_⟩; have n0_ := Aside0.mk (Kd.R_below (by (with_reducible repeat (first | apply Kd.R_alloc | apply Kd.R_drewN | apply Kd.R_drew)); exact HO_15.out) hb); have n1_ := Aside0.mk (below_step (by repeat (first | (with_reducible first | exact HB.out | apply below_alloc | apply pw_below_drewN | apply below_drew1) | exact HB.out)) hb); clear HO_15; clear HB; have HO_15 := n0_; have HB := n1_; clear n0_ n1_; (try clear hb); (try clear hb2); (try clear hk); (try clear hi); have p176 : 0 ≤ (x16_1 : Int) := of_decide_eq_true (by first | (with_reducible assumption) | assumption); have q176 : x16_1 < (y170.length : Int) := of_decide_eq_true (by first | (with_reducible assumption) | assumption); obtain ⟨ad176, e176, hx176_0⟩ := Kd.at_string (Kd.R_reads' HO_15.out).2.2 x16_1 p176 q176; obtain rfl : ad173 = ad176 := (by injection e176); replace p176 := eq_true p176; replace q176 := eq_true q176) | ((with_reducible refine gate_callee (f := 55) rfl ?_); refine goesL_ (some 94) rfl rfl Try.func55 (by kernel_rfl) rfl #[.string (rdOf ByteArray.empty y170 x16_1)] rfl (by (try simp only [List.map_toArray, List.map_cons, List.map_nil]); first | done | rfl | (simp only [List.length_drop, List.length_take]; rfl)) ?_; (with_reducible refine (plaitingref2_Open.calls k1 (rdOf ByteArray.empty y170 x16_1) t177 t178 _ A50.out).mono ?_); rintro e w' ⟨rfl, ⟨nd, rfl⟩⟩; refine ⟨_, rfl, ?_⟩))
                              go_ret
                              exact ⟨by first | rfl | (simp [errW_none, errW_some] <;> rfl) | (simp [*, errW_none, errW_some] <;> rfl), by repeat (first | (with_reducible first | exact HB.out | apply below_alloc | apply pw_below_drewN | apply below_drew1) | exact HB.out)⟩
                          · rw [if_neg c51] at H
                            have c51b0 : (t174.toList == t177.toList) = false := beq_eq_false_iff_ne.mpr c51
                            have c51b1 : (t174.toList != t177.toList) = true := bne_iff_ne.mpr c51
                            obtain rfl := Option.some.inj H
                            obtain ⟨Ao57, co57, eo57⟩ := Kd.R_slice HO_15.out
                            subst eo57
                            have p173 : 0 ≤ (x16_1 : Int) := of_decide_eq_true (by first | (with_reducible assumption) | assumption)
                            have q173 : x16_1 < (y170.length : Int) := of_decide_eq_true (by first | (with_reducible assumption) | assumption)
                            obtain ⟨ad173, e173, hx173_0⟩ := Kd.at_string (Kd.R_reads' HO_15.out).2.2 x16_1 p173 q173
                            cases e173
                            replace p173 := eq_true p173
                            replace q173 := eq_true q173
                            go_wp2_with (first | ((with_reducible refine gate_callee (f := 51) rfl ?_); refine goesL_ (some 86) rfl rfl Try.func51 (by kernel_rfl) rfl #[.string (rdOf ByteArray.empty y170 x16_1)] rfl (by (try simp only [List.map_toArray, List.map_cons, List.map_nil]); first | done | rfl | (simp only [List.length_drop, List.length_take]; rfl)) ?_; (with_reducible refine (crc_Open.calls k1 (rdOf ByteArray.empty y170 x16_1) t174 t175 _ A49.out).mono ?_); rintro e w58 ⟨rfl, hb⟩; refine ⟨_, rfl, ?_⟩; have n0_ := Aside0.mk (Kd.R_below (by (with_reducible repeat (first | apply Kd.R_alloc | apply Kd.R_drewN | apply Kd.R_drew)); exact HO_15.out) hb); have n1_ := Aside0.mk (below_step (by repeat (first | (with_reducible first | exact HB.out | apply below_alloc | apply pw_below_drewN | apply below_drew1) | exact HB.out)) hb); clear HO_15; clear HB; have HO_15 := n0_; have HB := n1_; clear n0_ n1_; (try clear hb); (try clear hb2); (try clear hk); (try clear hi); have p176 : 0 ≤ (x16_1 : Int) := of_decide_eq_true (by first | (with_reducible assumption) | assumption); have q176 : x16_1 < (y170.length : Int) := of_decide_eq_true (by first | (with_reducible assumption) | assumption); obtain ⟨ad176, e176, hx176_0⟩ := Kd.at_string (Kd.R_reads' HO_15.out).2.2 x16_1 p176 q176; obtain rfl : ad173 = ad176 := (by injection e176); replace p176 := eq_true p176; replace q176 := eq_true q176) | ((with_reducible refine gate_callee (f := 55) rfl ?_); refine goesL_ (some 94) rfl rfl Try.func55 (by kernel_rfl) rfl #[.string (rdOf ByteArray.empty y170 x16_1)] rfl (by (try simp only [List.map_toArray, List.map_cons, List.map_nil]); first | done | rfl | (simp only [List.length_drop, List.length_take]; rfl)) ?_; (with_reducible refine (plaitingref2_Open.calls k1 (rdOf ByteArray.empty y170 x16_1) t177 t178 _ A50.out).mono ?_); rintro e w' ⟨rfl, ⟨nd, rfl⟩⟩; refine ⟨_, rfl, ?_⟩))
                            go_ret
                            exact ⟨by first | rfl | (simp [errW_none, errW_some] <;> rfl) | (simp [*, errW_none, errW_some] <;> rfl), by repeat (first | (with_reducible first | exact HB.out | apply below_alloc | apply pw_below_drewN | apply below_drew1) | exact HB.out)⟩
                        · rw [if_neg c48] at H
                          exact absurd H (by simp)
                      · rw [if_neg c47] at H
                        have c47b0 : decide (x16_1 < (y170.length : Int)) = false := decide_eq_false c47
                        clear c47
                        obtain rfl := Option.some.inj H
                        obtain ⟨Ao59, co59, eo59⟩ := Kd.R_slice HO_15.out
                        subst eo59
                        go_wp2
                        go_ret
                        exact ⟨by first | rfl | (simp [errW_none, errW_some] <;> rfl) | (simp [*, errW_none, errW_some] <;> rfl), by repeat (first | (with_reducible first | exact HB.out | apply below_alloc | apply pw_below_drewN | apply below_drew1) | exact HB.out)⟩
                · rw [if_neg c38] at H
                  exact absurd H (by simp)
              · rw [if_neg c33] at H
                exact absurd H (by simp)
            · rw [if_neg c30] at H
              exact absurd H (by simp)
          · rw [if_neg c27] at H
            exact absurd H (by simp)
        · rw [if_neg c23] at H
          exact absurd H (by simp)
      · rw [if_neg c22] at H
        exact absurd H (by simp)
  · replace c8 := Bool.eq_false_iff.mpr c8
    subst c8
    have H1 : (some false) = some r := by rw [if_neg (show ¬ (false = true) by decide)] at H; exact H
    clear H
    have H := H1
    clear H1
    obtain rfl := Option.some.inj H
    go_enter Try.func16, Try.ntmps16
    go_wp2_with (first | ((with_reducible refine gate_callee (f := 33) rfl ?_); refine goesL_ (some 21) rfl rfl Try.func33 (by kernel_rfl) rfl #[] rfl (by (try simp only [List.map_toArray, List.map_cons, List.map_nil]); first | done | rfl | (simp only [List.length_drop, List.length_take]; rfl)) ?_; (with_reducible refine (plaitinglaw2_known.calls k  false _ A7.out).mono ?_); rintro e w60 ⟨rfl, hb⟩; refine ⟨_, rfl, ?_⟩; have n0_ := Aside0.mk (below_step (by repeat (first | (with_reducible first | exact HB.out | apply below_alloc | apply pw_below_drewN | apply below_drew1) | exact HB.out)) hb); clear HB; have HB := n0_; clear n0_; (try clear hb); (try clear hb2); (try clear hk); (try clear hi)))
    go_ret
    exact ⟨by first | rfl | (simp [errW_none, errW_some] <;> rfl) | (simp [*, errW_none, errW_some] <;> rfl), by repeat (first | (with_reducible first | exact HB.out | apply below_alloc | apply pw_below_drewN | apply below_drew1) | exact HB.out)⟩

/-- THE ONE PURE STATEMENT of plaitinglaw2_CrcOpens: yours. -/
def plaitinglaw2_CrcOpens.Pure : Prop := ∀ (l0 : List Int) (a1 : Int) (a2 : Int) (a3 : Int) (l4 : List Int) (a5 : ByteArray), l0.length ≤ maxLen → l0.length * 8 ≤ 140737488351232 → (∀ x ∈ l0, (Lit.int .i64 x).wf = true) → (Lit.int .i64 a1).wf = true → (Lit.int .i64 a2).wf = true → (Lit.int .i64 a3).wf = true → l4.length ≤ maxLen → l4.length * 8 ≤ 140737488351232 → (∀ x ∈ l4, (Lit.int .i64 x).wf = true) → a5.size ≤ 140737488351232 → ∃ k, plaitinglaw2_CrcOpens.f k l0 a1 a2 a3 l4 a5 = some true
theorem plaitinglaw2_CrcOpens.walk (P : plaitinglaw2_CrcOpens.Pure) (a0 : Option Addr) (len0 cap0 : Nat) (z0 : List Int) (a1 : Int) (a2 : Int) (a3 : Int) (a4 : Option Addr) (len4 cap4 : Nat) (z4 : List Int) (a5 : ByteArray) (w : World) (w0 : (a0 = none ∧ len0 = 0 ∧ cap0 = 0 ∧ z0 = []) ∨ ∃ x, a0 = some x ∧ len0 ≤ cap0 ∧ cap0 ≤ maxLen ∧ z0.length = cap0 ∧ (∀ i, i < z0.length → w.cell? (x.add i) = some (.int .i64 (z0.getD i 0))) ∧ ∀ n ∈ z0, (Lit.int .i64 n).wf = true) (y0 : len0 * 8 ≤ 140737488351232) (w1 : (Lit.int .i64 a1).wf = true) (w2 : (Lit.int .i64 a2).wf = true) (w3 : (Lit.int .i64 a3).wf = true) (w4 : (a4 = none ∧ len4 = 0 ∧ cap4 = 0 ∧ z4 = []) ∨ ∃ x, a4 = some x ∧ len4 ≤ cap4 ∧ cap4 ≤ maxLen ∧ z4.length = cap4 ∧ (∀ i, i < z4.length → w.cell? (x.add i) = some (.int .i64 (z4.getD i 0))) ∧ ∀ n ∈ z4, (Lit.int .i64 n).wf = true) (y4 : len4 * 8 ≤ 140737488351232) (w5 : a5.size ≤ 140737488351232) :
    Calls Try.prog 16 #[.slice a0 len0 cap0, .int .i64 a1, .int .i64 a2, .int .i64 a3, .slice a4 len4 cap4, .string a5] w fun e w' => e = .returned (.bool true) ∧ Below w.heap.size w w' := by
  obtain ⟨l0, rfl, hr0, hm0, hw0, hc0⟩ := ReadsInt.ofRowC w0
  obtain ⟨l4, rfl, hr4, hm4, hw4, hc4⟩ := ReadsInt.ofRowC w4
  obtain ⟨k, h⟩ := P l0 a1 a2 a3 l4 a5 hm0 y0 hw0 w1 w2 w3 hm4 y4 hw4 w5
  refine (plaitinglaw2_CrcOpens.calls k _ _ l0 a1 a2 a3 _ _ l4 a5 true w (Kd.C_of_reads (d := (0 : Int)) (h1 := fun _ => rfl) hr0) hc0 (Kd.C_of_reads (d := (0 : Int)) (h1 := fun _ => rfl) hr4) hc4 h).mono ?_
  rintro e w' ⟨rfl, hd⟩
  exact ⟨rfl, hd⟩

end Go.Proofs.Ytnggjnhfdjjphaa.PTwo
