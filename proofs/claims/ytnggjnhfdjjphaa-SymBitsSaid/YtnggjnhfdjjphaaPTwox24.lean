-- Written by the session's own program (wip/gen).
import Derived.Test.YtnggjnhfdjjphaaPTwox0
import Derived.Test.YtnggjnhfdjjphaaPTwox2
import Derived.Test.YtnggjnhfdjjphaaPTwox5
import Derived.Test.YtnggjnhfdjjphaaPTwox11
import Derived.Test.YtnggjnhfdjjphaaPTwox12
import Derived.Test.YtnggjnhfdjjphaaPTwox20
import Derived.Test.YtnggjnhfdjjphaaPTwox22
import Derived.Test.YtnggjnhfdjjphaaPTwox23
namespace Go.Proofs.Ytnggjnhfdjjphaa.PTwo
open Go.RowKit Go.Proofs.YtnggjnhfdjjphaaW.PrintWords Go.Proofs.YtnggjnhfdjjphaaW.PrintLast Go.Proofs.YtnggjnhfdjjphaaW.PrintMore
attribute [local go_sem] max2_int min2_int max_two min_two max_three min_three max_four min_four   -- for this text's walks alone
set_option linter.unusedVariables false
set_option linter.unusedSimpArgs false

/-! ### plaitinglaw1_SymBits: function 10 -/
def plaitinglaw1_SymBits.l0 : Nat → Int → Int → List ByteArray → Int → Option (Bool)
  | 0, _, _, _, _ => none
  | k + 1, x0, x1, x9, x10 => if x10 < 3 then (if 0 ≤ x10 then (if x10 < (x9.length : Int) then ((sym_Num.f (rdOf ByteArray.empty x9 x10)).bind fun bt240 => ((plaitingref1_Num.f k (rdOf ByteArray.empty x9 x10)).bind fun bt243 => (if bt240.1 = bt243.1 then (if (bt240.2 != bt243.2) = true then (some false) else (plaitinglaw1_SymBits.l0 k x0 x1 x9 (wrap64 (x10 + 1)))) else (some false)))) else (none)) else (none)) else ((plaitinglaw1_within.f x1 62).bind fun t245 => ((sym_Bits.f k x0 (wrap64 (1 + t245))).bind fun t246 => ((sym_Num.f t246).bind fun bt247 => ((sym_Bits.f k x0 x1).bind fun t249 => ((plaitingref1_Bits.f k x0 x1).bind fun t250 => (if t249.toList = t250.toList then ((plaitingref1_Bits.f k x0 (wrap64 (1 + t245))).bind fun t251 => (if t246.toList = t251.toList then (if (t246.size : Int) = (wrap64 (1 + t245)) then (if bt247.2 = true then (if 0 ≤ (IntKind.u64.wrap (wrap64 (1 + t245))) then (some (bt247.1 == (Go.bits .and .i64 x0 (wrap64 ((shl .i64 1 (IntKind.u64.wrap (wrap64 (1 + t245)))) - 1))))) else (none)) else (some false)) else (some false)) else (some false))) else (some false)))))))
def plaitinglaw1_SymBits.f (k : Nat) (a0 : Int) (a1 : Int) (l2 : List Int) (a3 : ByteArray) : Option (Bool) := (plaitinglaw1_known.f k).bind fun t234 => (if t234 = true then (if (a3.size : Int) > 100 then (some true) else ((plaitinglaw1_Text.f k l2).bind fun t235 => (plaitinglaw1_SymBits.l0 k a0 a1 (([t235, a3, (⟨#[]⟩ : ByteArray)] : List ByteArray)) 0))) else (some false))
theorem plaitinglaw1_SymBits.mono_l : ∀ k, (∀ y0 y1 y2 y3, LeO (plaitinglaw1_SymBits.l0 k y0 y1 y2 y3) (plaitinglaw1_SymBits.l0 (k + 1) y0 y1 y2 y3))
  | 0 => fun _ _ _ _ r h => by simp [plaitinglaw1_SymBits.l0] at h
  | k + 1 => by
    have ih0 := plaitinglaw1_SymBits.mono_l k
    · intro y0 y1 y2 y3
      unfold plaitinglaw1_SymBits.l0
      repeat' first
      | (with_reducible exact ih0 _ _ _ _)
      | (with_reducible exact plaitinglaw1_Text.mono _ _)
      | (with_reducible exact plaitinglaw1_known.mono _)
      | (with_reducible exact plaitingref1_Bits.mono _ _ _)
      | (with_reducible exact plaitingref1_Num.mono _ _)
      | (with_reducible exact sym_Bits.mono _ _ _)
      | (with_reducible exact LeO.refl _)
      | (with_reducible exact LeO.none _)
      | (with_reducible refine LeO.ite ?_ ?_)
      | (with_reducible refine LeO.bind ?_ (fun _ => ?_))
      | exact ih0 _ _ _ _
      | exact plaitinglaw1_Text.mono _ _
      | exact plaitinglaw1_known.mono _
      | exact plaitingref1_Bits.mono _ _ _
      | exact plaitingref1_Num.mono _ _
      | exact sym_Bits.mono _ _ _
      | exact LeO.none _
      | refine LeO.ite ?_ ?_
      | refine LeO.bind ?_ (fun _ => ?_)
theorem plaitinglaw1_SymBits.mono : ∀ a0 a1 a2 a3 k, LeO (plaitinglaw1_SymBits.f k a0 a1 a2 a3) (plaitinglaw1_SymBits.f (k + 1) a0 a1 a2 a3) := by
  intro a0 a1 a2 a3 k
  have ih0 := plaitinglaw1_SymBits.mono_l k
  unfold plaitinglaw1_SymBits.f
  repeat' first
      | (with_reducible exact ih0 _ _ _ _)
      | (with_reducible exact plaitinglaw1_Text.mono _ _)
      | (with_reducible exact plaitinglaw1_known.mono _)
      | (with_reducible exact plaitingref1_Bits.mono _ _ _)
      | (with_reducible exact plaitingref1_Num.mono _ _)
      | (with_reducible exact sym_Bits.mono _ _ _)
      | (with_reducible exact LeO.refl _)
      | (with_reducible exact LeO.none _)
      | (with_reducible refine LeO.ite ?_ ?_)
      | (with_reducible refine LeO.bind ?_ (fun _ => ?_))
      | exact ih0 _ _ _ _
      | exact plaitinglaw1_Text.mono _ _
      | exact plaitinglaw1_known.mono _
      | exact plaitingref1_Bits.mono _ _ _
      | exact plaitingref1_Num.mono _ _
      | exact sym_Bits.mono _ _ _
      | exact LeO.none _
      | refine LeO.ite ?_ ?_
      | refine LeO.bind ?_ (fun _ => ?_)
set_option maxHeartbeats 8000000 in
set_option maxRecDepth 100000 in
theorem plaitinglaw1_SymBits.calls (k : Nat) (a0 : Int) (a1 : Int) (A2 : Option Addr) (c2 : Nat) (l2 : List Int) (a3 : ByteArray) (r : Bool) (w : World) (hr2 : Kd.C (Kd.int .i64) w A2 l2.length l2) (hc2 : l2.length ≤ c2) (h : plaitinglaw1_SymBits.f k a0 a1 l2 a3 = some r) :
    Calls Try.prog 10 #[.int .i64 a0, .int .i64 a1, .slice A2 l2.length c2, .string a3] w fun e w' => e = .returned (.bool r) ∧ Below w.heap.size w w' := by
  have HR2 := Aside0.mk hr2
  have HC2 := Aside0.mk hc2
  clear hr2 hc2
  have HB := Aside0.mk (Below.refl w.heap.size w)
  have H : ((plaitinglaw1_known.f k).bind fun t234 => (if t234 = true then (if (a3.size : Int) > 100 then (some true) else ((plaitinglaw1_Text.f k l2).bind fun t235 => (plaitinglaw1_SymBits.l0 k a0 a1 (([t235, a3, (⟨#[]⟩ : ByteArray)] : List ByteArray)) 0))) else (some false))) = some r := h
  clear h
  replace H := Option.bind_eq_some_iff.mp H
  obtain ⟨t234, A50, H⟩ := H
  replace H : (if t234 = true then (if (a3.size : Int) > 100 then (some true) else ((plaitinglaw1_Text.f k l2).bind fun t235 => (plaitinglaw1_SymBits.l0 k a0 a1 (([t235, a3, (⟨#[]⟩ : ByteArray)] : List ByteArray)) 0))) else (some false)) = some r := H
  have A5 := Aside0.mk A50
  clear A50
  by_cases c6 : t234 = true
  · subst c6
    have H1 : (if (a3.size : Int) > 100 then (some true) else ((plaitinglaw1_Text.f k l2).bind fun t235 => (plaitinglaw1_SymBits.l0 k a0 a1 (([t235, a3, (⟨#[]⟩ : ByteArray)] : List ByteArray)) 0))) = some r := by rw [if_pos rfl] at H; exact H
    clear H
    have H := H1
    clear H1
    by_cases c7 : (a3.size : Int) > 100
    · rw [if_pos c7] at H
      have c7b0 : decide (100 < (a3.size : Int)) = true := decide_eq_true c7
      have c7b1 : decide (100 < a3.size) = true := decide_eq_true (by omega)
      clear c7
      obtain rfl := Option.some.inj H
      go_enter Try.func10, Try.ntmps10
      go_wp2_with (first | ((with_reducible refine gate_callee (f := 37) rfl ?_); refine goesL_ (some 19) rfl rfl Try.func37 (by kernel_rfl) rfl #[] rfl (by (try simp only [List.map_toArray, List.map_cons, List.map_nil]); first | done | rfl | (simp only [List.length_drop, List.length_take]; rfl)) ?_; (with_reducible refine (plaitinglaw1_known.calls k  true _ A5.out).mono ?_); rintro e w8 ⟨rfl, hb⟩; refine ⟨_, rfl, ?_⟩; have n0_ := Aside0.mk (below_step (by repeat (first | (with_reducible first | exact HB.out | apply below_alloc | apply pw_below_drewN | apply below_drew1) | exact HB.out)) hb); clear HB; have HB := n0_; clear n0_; (try clear hb); (try clear hb2); (try clear hk); (try clear hi)))
      go_ret
      exact ⟨by first | rfl | (simp [errW_none, errW_some] <;> rfl) | (simp [*, errW_none, errW_some] <;> rfl), by repeat (first | (with_reducible first | exact HB.out | apply below_alloc | apply pw_below_drewN | apply below_drew1) | exact HB.out)⟩
    · rw [if_neg c7] at H
      have c7b0 : decide (100 < (a3.size : Int)) = false := decide_eq_false c7
      have c7b1 : decide (100 < a3.size) = false := decide_eq_false (by omega)
      clear c7
      replace H := Option.bind_eq_some_iff.mp H
      obtain ⟨t235, A90, H⟩ := H
      replace H : (plaitinglaw1_SymBits.l0 k a0 a1 (([t235, a3, (⟨#[]⟩ : ByteArray)] : List ByteArray)) 0) = some r := H
      have A9 := Aside0.mk A90
      clear A90
      obtain ⟨y236, hy236⟩ : ∃ y_ : List ByteArray, y_ = (([t235, a3, (⟨#[]⟩ : ByteArray)] : List ByteArray)) := ⟨_, rfl⟩
      replace H : (plaitinglaw1_SymBits.l0 k a0 a1 y236 0) = some r := by first | (rw [hy236]; with_reducible exact H) | (have H2_ := (Option.bind_some _ _).symm.trans H; rw [hy236]; with_reducible exact H2_) | (have H2_ := (Option.bind_some _ _).symm.trans H; with_reducible exact H2_) | with_reducible exact H | (rw [hy236]; exact H) | exact H
      have Ny236 := Aside0.mk hy236
      clear hy236
      have H' := Aside0.mk H
      clear H
      go_enter Try.func10, Try.ntmps10
      go_wp2_with (first | ((with_reducible refine gate_callee (f := 37) rfl ?_); refine goesL_ (some 19) rfl rfl Try.func37 (by kernel_rfl) rfl #[] rfl (by (try simp only [List.map_toArray, List.map_cons, List.map_nil]); first | done | rfl | (simp only [List.length_drop, List.length_take]; rfl)) ?_; (with_reducible refine (plaitinglaw1_known.calls k  true _ A5.out).mono ?_); rintro e w10 ⟨rfl, hb⟩; refine ⟨_, rfl, ?_⟩; have n0_ := Aside0.mk (below_step (by repeat (first | (with_reducible first | exact HB.out | apply below_alloc | apply pw_below_drewN | apply below_drew1) | exact HB.out)) hb); clear HB; have HB := n0_; clear n0_; (try clear hb); (try clear hb2); (try clear hk); (try clear hi)) | ((with_reducible refine gate_callee (f := 39) rfl ?_); refine goesL_ (some 25) rfl rfl Try.func39 (by kernel_rfl) rfl #[.slice A2 l2.length c2] rfl (by (try simp only [List.map_toArray, List.map_cons, List.map_nil]); first | done | rfl | (simp only [List.length_drop, List.length_take]; rfl)) ?_; (with_reducible refine (plaitinglaw1_Text.calls k _ _ l2 t235 _ ?side1 ?side2 A9.out).mono ?_); (case side1 => repeat (first | exact (Kd.C_below HR2.out HB.out) | (with_reducible refine Kd.C_alloc ?_ _) | (with_reducible refine Kd.C_drewN ?_ _) | (with_reducible refine Kd.C_drew ?_))); (case side2 => exact HC2.out); rintro e w11 ⟨rfl, hb⟩; refine ⟨_, rfl, ?_⟩; have n0_ := Aside0.mk (below_step (by repeat (first | (with_reducible first | exact HB.out | apply below_alloc | apply pw_below_drewN | apply below_drew1) | exact HB.out)) hb); clear HB; have HB := n0_; clear n0_; (try clear hb); (try clear hb2); (try clear hk); (try clear hi)) | ((with_reducible refine gate_dst (N := 27) rfl ?_); (try (refine gate_guard (by rfl) ?_; dsimp only)); refine Kd.R_lit Kd.string _ 9 ?hg (N := 27) ?hd (xs := ([t235, a3, (⟨#[]⟩ : ByteArray)] : List ByteArray)) (inner := [.string t235, .string a3, .string (⟨#[]⟩ : ByteArray)]) (ok := fun _ => True) (okp := fun _ => True) ?hr ?hp (fun _ hk => hk) trivial (Below.refl _ _) (Nat.le_refl _) (by simp) ?_; (case hd => rfl); (case hg => rfl); (case hr => first | (go_simp; done) | (go_simp; rfl)); (case hp => exact (Reps.one (show Kd.M Kd.string _ _ _ t235 [.string t235] from rfl) (Reps.one (show Kd.M Kd.string _ _ _ a3 [.string a3] from rfl) (Reps.one (show Kd.M Kd.string _ _ _ (⟨#[]⟩ : ByteArray) [.string (⟨#[]⟩ : ByteArray)] from rfl) (Reps.none _ _))))); intro v237 w12 ho13 hb hg_ hnew_; clear hg_ hnew_; (first | rw [← Ny236.out] at ho13 | (simp only [Int.reduceToNat] at ho13; rw [← Ny236.out] at ho13)); have n0_ := Aside0.mk (Kd.R_lower ho13 (below_size (by repeat (first | (with_reducible first | exact HB.out | apply below_alloc | apply pw_below_drewN | apply below_drew1) | exact HB.out)))); have n1_ := Aside0.mk (below_step (by repeat (first | (with_reducible first | exact HB.out | apply below_alloc | apply pw_below_drewN | apply below_drew1) | exact HB.out)) hb); clear HB; have HO238 := n0_; have HB := n1_; clear n0_ n1_; clear hb ho13))
      go_loopg [10] k (fun kq v10 w' => ∃ (x10_1 : Int), v10 = .int .i64 x10_1 ∧ Aside0 (plaitinglaw1_SymBits.l0 kq a0 a1 y236 x10_1 = some r) ∧ Aside0 (kq ≤ k) ∧ Aside0 (Kd.R Kd.string 9 w' w.heap.size (fun _ => True) v237 y236) ∧ Aside0 (Below w.heap.size w w'))
      case atStart => exact ⟨(0), (by first | rfl | (simp; done) | (simp [*]; done)), H', ⟨Nat.le_refl _⟩, ⟨by (with_reducible repeat (first | apply Kd.R_alloc | apply Kd.R_drewN | apply Kd.R_drew)); exact HO238.out⟩, ⟨by repeat (first | (with_reducible first | exact HB.out | apply below_alloc | apply pw_below_drewN | apply below_drew1) | exact HB.out)⟩⟩
      case round =>
        clear H'
        try clear c1
        try clear c2
        try clear p2
        try clear c3
        try clear c6
        try clear c7
        try clear c7b0
        try clear c7b1
        try clear c10
        obtain ⟨x10_1, rfl, HA, HK1, HO_9, HB⟩ := hrel
        cases gk with
        | zero => exact absurd HA.out (by simp [plaitinglaw1_SymBits.l0])
        | succ k1 =>
          have H := HA.out
          clear HA
          simp only [plaitinglaw1_SymBits.l0] at H
          by_cases c14 : x10_1 < 3
          · rw [if_pos c14] at H
            have c14b0 : decide (x10_1 < 3) = true := decide_eq_true c14
            clear c14
            by_cases c15 : 0 ≤ x10_1
            · rw [if_pos c15] at H
              have c15b0 : decide (0 ≤ x10_1) = true := decide_eq_true c15
              clear c15
              by_cases c16 : x10_1 < (y236.length : Int)
              · rw [if_pos c16] at H
                have c16b0 : decide (x10_1 < (y236.length : Int)) = true := decide_eq_true c16
                clear c16
                replace H := Option.bind_eq_some_iff.mp H
                obtain ⟨⟨t240, t241⟩, A170, H⟩ := H
                replace H : ((plaitingref1_Num.f k1 (rdOf ByteArray.empty y236 x10_1)).bind fun bt243 => (if t240 = bt243.1 then (if (t241 != bt243.2) = true then (some false) else (plaitinglaw1_SymBits.l0 k1 a0 a1 y236 (wrap64 (x10_1 + 1)))) else (some false))) = some r := H
                have A17 := Aside0.mk A170
                clear A170
                replace H := Option.bind_eq_some_iff.mp H
                obtain ⟨⟨t243, t244⟩, A180, H⟩ := H
                replace H : (if t240 = t243 then (if (t241 != t244) = true then (some false) else (plaitinglaw1_SymBits.l0 k1 a0 a1 y236 (wrap64 (x10_1 + 1)))) else (some false)) = some r := H
                have A18 := Aside0.mk A180
                clear A180
                by_cases c19 : t240 = t243
                · rw [if_pos c19] at H
                  have c19b0 : (t240 == t243) = true := beq_iff_eq.mpr c19
                  have c19b1 : (t240 != t243) = false := bne_eq_false_iff_eq.mpr c19
                  clear c19
                  by_cases c20 : (t241 != t244) = true
                  · rw [if_pos c20] at H
                    have c20b0 : (t241 != t244) = true := c20
                    (try (have c20b1 : decide (t241 = t244) = false := by simpa using c20))
                    (try (have c20b2 : (t241 == t244) = false := by simpa using c20))
                    (try (have c20b3 : ¬ (t241 = t244) := by simpa using c20))
                    clear c20
                    obtain rfl := Option.some.inj H
                    obtain ⟨Ao21, co21, eo21⟩ := Kd.R_slice HO_9.out
                    subst eo21
                    have p239 : 0 ≤ (x10_1 : Int) := of_decide_eq_true (by first | (with_reducible assumption) | assumption)
                    have q239 : x10_1 < (y236.length : Int) := of_decide_eq_true (by first | (with_reducible assumption) | assumption)
                    obtain ⟨ad239, e239, hx239_0⟩ := Kd.at_string (Kd.R_reads' HO_9.out).2.2 x10_1 p239 q239
                    cases e239
                    replace p239 := eq_true p239
                    replace q239 := eq_true q239
                    go_wp2_with (first | ((with_reducible refine gate_callee (f := 42) rfl ?_); refine goesL_ (some 37) rfl rfl Try.func42 (by kernel_rfl) rfl #[.string (rdOf ByteArray.empty y236 x10_1)] rfl (by (try simp only [List.map_toArray, List.map_cons, List.map_nil]); first | done | rfl | (simp only [List.length_drop, List.length_take]; rfl)) ?_; (with_reducible refine (sym_Num.calls (rdOf ByteArray.empty y236 x10_1) t240 t241 _ A17.out).mono ?_); rintro e w22 ⟨rfl, hb⟩; refine ⟨_, rfl, ?_⟩; have n0_ := Aside0.mk (Kd.R_below (by (with_reducible repeat (first | apply Kd.R_alloc | apply Kd.R_drewN | apply Kd.R_drew)); exact HO_9.out) hb); have n1_ := Aside0.mk (below_step (by repeat (first | (with_reducible first | exact HB.out | apply below_alloc | apply pw_below_drewN | apply below_drew1) | exact HB.out)) hb); clear HO_9; clear HB; have HO_9 := n0_; have HB := n1_; clear n0_ n1_; (try clear hb); (try clear hb2); (try clear hk); (try clear hi); have p242 : 0 ≤ (x10_1 : Int) := of_decide_eq_true (by first | (with_reducible assumption) | assumption); have q242 : x10_1 < (y236.length : Int) := of_decide_eq_true (by first | (with_reducible assumption) | assumption); obtain ⟨ad242, e242, hx242_0⟩ := Kd.at_string (Kd.R_reads' HO_9.out).2.2 x10_1 p242 q242; obtain rfl : ad239 = ad242 := (by injection e242); replace p242 := eq_true p242; replace q242 := eq_true q242) | ((with_reducible refine gate_callee (f := 43) rfl ?_); refine goesL_ (some 45) rfl rfl Try.func43 (by kernel_rfl) rfl #[.string (rdOf ByteArray.empty y236 x10_1)] rfl (by (try simp only [List.map_toArray, List.map_cons, List.map_nil]); first | done | rfl | (simp only [List.length_drop, List.length_take]; rfl)) ?_; (with_reducible refine (plaitingref1_Num.calls k1 (rdOf ByteArray.empty y236 x10_1) t243 t244 _ A18.out).mono ?_); rintro e w' ⟨rfl, ⟨nd, rfl⟩⟩; refine ⟨_, rfl, ?_⟩))
                    go_ret
                    exact ⟨by first | rfl | (simp [errW_none, errW_some] <;> rfl) | (simp [*, errW_none, errW_some] <;> rfl), by repeat (first | (with_reducible first | exact HB.out | apply below_alloc | apply pw_below_drewN | apply below_drew1) | exact HB.out)⟩
                  · rw [if_neg c20] at H
                    have c20b0 : (t241 != t244) = false := by simpa using c20
                    (try (have c20b1 : decide (t241 = t244) = true := by simpa using c20))
                    (try (have c20b2 : (t241 == t244) = true := by simpa using c20))
                    clear c20
                    have H' := Aside0.mk H
                    clear H
                    obtain ⟨Ao23, co23, eo23⟩ := Kd.R_slice HO_9.out
                    subst eo23
                    have p239 : 0 ≤ (x10_1 : Int) := of_decide_eq_true (by first | (with_reducible assumption) | assumption)
                    have q239 : x10_1 < (y236.length : Int) := of_decide_eq_true (by first | (with_reducible assumption) | assumption)
                    obtain ⟨ad239, e239, hx239_0⟩ := Kd.at_string (Kd.R_reads' HO_9.out).2.2 x10_1 p239 q239
                    cases e239
                    replace p239 := eq_true p239
                    replace q239 := eq_true q239
                    go_wp2_with (first | ((with_reducible refine gate_callee (f := 42) rfl ?_); refine goesL_ (some 37) rfl rfl Try.func42 (by kernel_rfl) rfl #[.string (rdOf ByteArray.empty y236 x10_1)] rfl (by (try simp only [List.map_toArray, List.map_cons, List.map_nil]); first | done | rfl | (simp only [List.length_drop, List.length_take]; rfl)) ?_; (with_reducible refine (sym_Num.calls (rdOf ByteArray.empty y236 x10_1) t240 t241 _ A17.out).mono ?_); rintro e w24 ⟨rfl, hb⟩; refine ⟨_, rfl, ?_⟩; have n0_ := Aside0.mk (Kd.R_below (by (with_reducible repeat (first | apply Kd.R_alloc | apply Kd.R_drewN | apply Kd.R_drew)); exact HO_9.out) hb); have n1_ := Aside0.mk (below_step (by repeat (first | (with_reducible first | exact HB.out | apply below_alloc | apply pw_below_drewN | apply below_drew1) | exact HB.out)) hb); clear HO_9; clear HB; have HO_9 := n0_; have HB := n1_; clear n0_ n1_; (try clear hb); (try clear hb2); (try clear hk); (try clear hi); have p242 : 0 ≤ (x10_1 : Int) := of_decide_eq_true (by first | (with_reducible assumption) | assumption); have q242 : x10_1 < (y236.length : Int) := of_decide_eq_true (by first | (with_reducible assumption) | assumption); obtain ⟨ad242, e242, hx242_0⟩ := Kd.at_string (Kd.R_reads' HO_9.out).2.2 x10_1 p242 q242; obtain rfl : ad239 = ad242 := (by injection e242); replace p242 := eq_true p242; replace q242 := eq_true q242) | ((with_reducible refine gate_callee (f := 43) rfl ?_); refine goesL_ (some 45) rfl rfl Try.func43 (by kernel_rfl) rfl #[.string (rdOf ByteArray.empty y236 x10_1)] rfl (by (try simp only [List.map_toArray, List.map_cons, List.map_nil]); first | done | rfl | (simp only [List.length_drop, List.length_take]; rfl)) ?_; (with_reducible refine (plaitingref1_Num.calls k1 (rdOf ByteArray.empty y236 x10_1) t243 t244 _ A18.out).mono ?_); rintro e w' ⟨rfl, ⟨nd, rfl⟩⟩; refine ⟨_, rfl, ?_⟩))
                    go_roundg k1
                    case measure => have := HK1.out; omega
                    case rel => exact ⟨(wrap64 (x10_1 + 1)), (by first | rfl | (simp; done) | (simp [*]; done)), H', ⟨by have := HK1.out; omega⟩, ⟨by (with_reducible repeat (first | apply Kd.R_alloc | apply Kd.R_drewN | apply Kd.R_drew)); exact HO_9.out⟩, ⟨by repeat (first | (with_reducible first | exact HB.out | apply below_alloc | apply pw_below_drewN | apply below_drew1) | exact HB.out)⟩⟩
                · rw [if_neg c19] at H
                  have c19b0 : (t240 == t243) = false := beq_eq_false_iff_ne.mpr c19
                  have c19b1 : (t240 != t243) = true := bne_iff_ne.mpr c19
                  obtain rfl := Option.some.inj H
                  obtain ⟨Ao25, co25, eo25⟩ := Kd.R_slice HO_9.out
                  subst eo25
                  have p239 : 0 ≤ (x10_1 : Int) := of_decide_eq_true (by first | (with_reducible assumption) | assumption)
                  have q239 : x10_1 < (y236.length : Int) := of_decide_eq_true (by first | (with_reducible assumption) | assumption)
                  obtain ⟨ad239, e239, hx239_0⟩ := Kd.at_string (Kd.R_reads' HO_9.out).2.2 x10_1 p239 q239
                  cases e239
                  replace p239 := eq_true p239
                  replace q239 := eq_true q239
                  go_wp2_with (first | ((with_reducible refine gate_callee (f := 42) rfl ?_); refine goesL_ (some 37) rfl rfl Try.func42 (by kernel_rfl) rfl #[.string (rdOf ByteArray.empty y236 x10_1)] rfl (by (try simp only [List.map_toArray, List.map_cons, List.map_nil]); first | done | rfl | (simp only [List.length_drop, List.length_take]; rfl)) ?_; (with_reducible refine (sym_Num.calls (rdOf ByteArray.empty y236 x10_1) t240 t241 _ A17.out).mono ?_); rintro e w26 ⟨rfl, hb⟩; refine ⟨_, rfl, ?_⟩; have n0_ := Aside0.mk (Kd.R_below (by (with_reducible repeat (first | apply Kd.R_alloc | apply Kd.R_drewN | apply Kd.R_drew)); exact HO_9.out) hb); have n1_ := Aside0.mk (below_step (by repeat (first | (with_reducible first | exact HB.out | apply below_alloc | apply pw_below_drewN | apply below_drew1) | exact HB.out)) hb); clear HO_9; clear HB; have HO_9 := n0_; have HB := n1_; clear n0_ n1_; (try clear hb); (try clear hb2); (try clear hk); (try clear hi); have p242 : 0 ≤ (x10_1 : Int) := of_decide_eq_true (by first | (with_reducible assumption) | assumption); have q242 : x10_1 < (y236.length : Int) := of_decide_eq_true (by first | (with_reducible assumption) | assumption); obtain ⟨ad242, e242, hx242_0⟩ := Kd.at_string (Kd.R_reads' HO_9.out).2.2 x10_1 p242 q242; obtain rfl : ad239 = ad242 := (by injection e242); replace p242 := eq_true p242; replace q242 := eq_true q242) | ((with_reducible refine gate_callee (f := 43) rfl ?_); refine goesL_ (some 45) rfl rfl Try.func43 (by kernel_rfl) rfl #[.string (rdOf ByteArray.empty y236 x10_1)] rfl (by (try simp only [List.map_toArray, List.map_cons, List.map_nil]); first | done | rfl | (simp only [List.length_drop, List.length_take]; rfl)) ?_; (with_reducible refine (plaitingref1_Num.calls k1 (rdOf ByteArray.empty y236 x10_1) t243 t244 _ A18.out).mono ?_); rintro e w' ⟨rfl, ⟨nd, rfl⟩⟩; refine ⟨_, rfl, ?_⟩))
                  go_ret
                  exact ⟨by first | rfl | (simp [errW_none, errW_some] <;> rfl) | (simp [*, errW_none, errW_some] <;> rfl), by repeat (first | (with_reducible first | exact HB.out | apply below_alloc | apply pw_below_drewN | apply below_drew1) | exact HB.out)⟩
              · rw [if_neg c16] at H
                exact absurd H (by simp)
            · rw [if_neg c15] at H
              exact absurd H (by simp)
          · rw [if_neg c14] at H
            have c14b0 : decide (x10_1 < 3) = false := decide_eq_false c14
            clear c14
            replace H := Option.bind_eq_some_iff.mp H
            obtain ⟨t245, A270, H⟩ := H
            replace H : ((sym_Bits.f k1 a0 (wrap64 (1 + t245))).bind fun t246 => ((sym_Num.f t246).bind fun bt247 => ((sym_Bits.f k1 a0 a1).bind fun t249 => ((plaitingref1_Bits.f k1 a0 a1).bind fun t250 => (if t249.toList = t250.toList then ((plaitingref1_Bits.f k1 a0 (wrap64 (1 + t245))).bind fun t251 => (if t246.toList = t251.toList then (if (t246.size : Int) = (wrap64 (1 + t245)) then (if bt247.2 = true then (if 0 ≤ (IntKind.u64.wrap (wrap64 (1 + t245))) then (some (bt247.1 == (Go.bits .and .i64 a0 (wrap64 ((shl .i64 1 (IntKind.u64.wrap (wrap64 (1 + t245)))) - 1))))) else (none)) else (some false)) else (some false)) else (some false))) else (some false)))))) = some r := H
            have A27 := Aside0.mk A270
            clear A270
            replace H := Option.bind_eq_some_iff.mp H
            obtain ⟨t246, A280, H⟩ := H
            replace H : ((sym_Num.f t246).bind fun bt247 => ((sym_Bits.f k1 a0 a1).bind fun t249 => ((plaitingref1_Bits.f k1 a0 a1).bind fun t250 => (if t249.toList = t250.toList then ((plaitingref1_Bits.f k1 a0 (wrap64 (1 + t245))).bind fun t251 => (if t246.toList = t251.toList then (if (t246.size : Int) = (wrap64 (1 + t245)) then (if bt247.2 = true then (if 0 ≤ (IntKind.u64.wrap (wrap64 (1 + t245))) then (some (bt247.1 == (Go.bits .and .i64 a0 (wrap64 ((shl .i64 1 (IntKind.u64.wrap (wrap64 (1 + t245)))) - 1))))) else (none)) else (some false)) else (some false)) else (some false))) else (some false))))) = some r := H
            have A28 := Aside0.mk A280
            clear A280
            replace H := Option.bind_eq_some_iff.mp H
            obtain ⟨⟨t247, t248⟩, A290, H⟩ := H
            replace H : ((sym_Bits.f k1 a0 a1).bind fun t249 => ((plaitingref1_Bits.f k1 a0 a1).bind fun t250 => (if t249.toList = t250.toList then ((plaitingref1_Bits.f k1 a0 (wrap64 (1 + t245))).bind fun t251 => (if t246.toList = t251.toList then (if (t246.size : Int) = (wrap64 (1 + t245)) then (if t248 = true then (if 0 ≤ (IntKind.u64.wrap (wrap64 (1 + t245))) then (some (t247 == (Go.bits .and .i64 a0 (wrap64 ((shl .i64 1 (IntKind.u64.wrap (wrap64 (1 + t245)))) - 1))))) else (none)) else (some false)) else (some false)) else (some false))) else (some false)))) = some r := H
            have A29 := Aside0.mk A290
            clear A290
            replace H := Option.bind_eq_some_iff.mp H
            obtain ⟨t249, A300, H⟩ := H
            replace H : ((plaitingref1_Bits.f k1 a0 a1).bind fun t250 => (if t249.toList = t250.toList then ((plaitingref1_Bits.f k1 a0 (wrap64 (1 + t245))).bind fun t251 => (if t246.toList = t251.toList then (if (t246.size : Int) = (wrap64 (1 + t245)) then (if t248 = true then (if 0 ≤ (IntKind.u64.wrap (wrap64 (1 + t245))) then (some (t247 == (Go.bits .and .i64 a0 (wrap64 ((shl .i64 1 (IntKind.u64.wrap (wrap64 (1 + t245)))) - 1))))) else (none)) else (some false)) else (some false)) else (some false))) else (some false))) = some r := H
            have A30 := Aside0.mk A300
            clear A300
            replace H := Option.bind_eq_some_iff.mp H
            obtain ⟨t250, A310, H⟩ := H
            replace H : (if t249.toList = t250.toList then ((plaitingref1_Bits.f k1 a0 (wrap64 (1 + t245))).bind fun t251 => (if t246.toList = t251.toList then (if (t246.size : Int) = (wrap64 (1 + t245)) then (if t248 = true then (if 0 ≤ (IntKind.u64.wrap (wrap64 (1 + t245))) then (some (t247 == (Go.bits .and .i64 a0 (wrap64 ((shl .i64 1 (IntKind.u64.wrap (wrap64 (1 + t245)))) - 1))))) else (none)) else (some false)) else (some false)) else (some false))) else (some false)) = some r := H
            have A31 := Aside0.mk A310
            clear A310
            by_cases c32 : t249.toList = t250.toList
            · rw [if_pos c32] at H
              have c32b0 : (t249.toList == t250.toList) = true := beq_iff_eq.mpr c32
              have c32b1 : (t249.toList != t250.toList) = false := bne_eq_false_iff_eq.mpr c32
              clear c32
              replace H := Option.bind_eq_some_iff.mp H
              obtain ⟨t251, A330, H⟩ := H
              replace H : (if t246.toList = t251.toList then (if (t246.size : Int) = (wrap64 (1 + t245)) then (if t248 = true then (if 0 ≤ (IntKind.u64.wrap (wrap64 (1 + t245))) then (some (t247 == (Go.bits .and .i64 a0 (wrap64 ((shl .i64 1 (IntKind.u64.wrap (wrap64 (1 + t245)))) - 1))))) else (none)) else (some false)) else (some false)) else (some false)) = some r := H
              have A33 := Aside0.mk A330
              clear A330
              by_cases c34 : t246.toList = t251.toList
              · rw [if_pos c34] at H
                have c34b0 : (t246.toList == t251.toList) = true := beq_iff_eq.mpr c34
                have c34b1 : (t246.toList != t251.toList) = false := bne_eq_false_iff_eq.mpr c34
                clear c34
                by_cases c35 : (t246.size : Int) = (wrap64 (1 + t245))
                · rw [if_pos c35] at H
                  have c35b0 : ((t246.size : Int) == (wrap64 (1 + t245))) = true := beq_iff_eq.mpr c35
                  have c35b1 : ((t246.size : Int) != (wrap64 (1 + t245))) = false := bne_eq_false_iff_eq.mpr c35
                  clear c35
                  by_cases c36 : t248 = true
                  · subst c36
                    have H1 : (if 0 ≤ (IntKind.u64.wrap (wrap64 (1 + t245))) then (some (t247 == (Go.bits .and .i64 a0 (wrap64 ((shl .i64 1 (IntKind.u64.wrap (wrap64 (1 + t245)))) - 1))))) else (none)) = some r := by rw [if_pos rfl] at H; exact H
                    clear H
                    have H := H1
                    clear H1
                    obtain ⟨ji37, hji37⟩ : ∃ j_ : Int, (IntKind.u64.wrap (wrap64 (1 + t245))) = j_ := ⟨_, rfl⟩
                    replace H : (if 0 ≤ (ji37) then (some (t247 == (Go.bits .and .i64 a0 (wrap64 ((shl .i64 1 (ji37)) - 1))))) else (none)) = some r := by first | (rw [hji37] at H; exact H) | (simp only [hji37] at H ⊢; exact H)
                    (try rw [hji37] at A27)
                    (try rw [hji37] at A28)
                    (try rw [hji37] at A29)
                    (try rw [hji37] at A30)
                    (try rw [hji37] at A31)
                    (try rw [hji37] at A33)
                    by_cases c38 : 0 ≤ (ji37)
                    · rw [if_pos c38] at H
                      have c38b0 := eq_true c38
                      have c38b1 : decide (0 ≤ (ji37)) = true := decide_eq_true c38
                      clear c38
                      obtain ⟨ji39, hji39⟩ : ∃ j_ : Int, (shl .i64 1 (ji37)) = j_ := ⟨_, rfl⟩
                      replace H : (some (t247 == (Go.bits .and .i64 a0 (wrap64 ((ji39) - 1))))) = some r := by first | (rw [hji39] at H; exact H) | (simp only [hji39] at H ⊢; exact H)
                      (try rw [hji39] at A27)
                      (try rw [hji39] at A28)
                      (try rw [hji39] at A29)
                      (try rw [hji39] at A30)
                      (try rw [hji39] at A31)
                      (try rw [hji39] at A33)
                      have hji39_ : (IntKind.i64.wrap (1 * 2 ^ min (ji37).toNat 64)) = ji39 := hji39
                      have hji39z : (ji37) ≤ 64 → (IntKind.i64.wrap (1 * 2 ^ (ji37).toNat)) = ji39 := shl_small hji39
                      have hji39u : (IntKind.i64.wrap (2 ^ min (ji37).toNat 64)) = ji39 := by have h_ := hji39_; rw [Int.one_mul] at h_; exact h_
                      have hji39v : (ji37) ≤ 64 → (IntKind.i64.wrap (2 ^ (ji37).toNat)) = ji39 := fun hle_ => by have h_ := hji39z hle_; rw [Int.one_mul] at h_; exact h_
                      have hji39y : (wrap64 (1 * 2 ^ min (ji37).toNat 64)) = ji39 := (i64_w _).symm.trans hji39_
                      have hji39x : (ji37) ≤ 64 → (wrap64 (1 * 2 ^ (ji37).toNat)) = ji39 := fun h_ => (i64_w _).symm.trans (hji39z h_)
                      obtain rfl := Option.some.inj H
                      go_wp2_with (first | ((with_reducible refine gate_callee (f := 44) rfl ?_); refine goesL_ (some 57) rfl rfl Try.func44 (by kernel_rfl) rfl #[.int .i64 a1, .int .i64 62] rfl (by (try simp only [List.map_toArray, List.map_cons, List.map_nil]); first | done | rfl | (simp only [List.length_drop, List.length_take]; rfl)) ?_; (with_reducible refine (plaitinglaw1_within.calls a1 62 t245 _ A27.out).mono ?_); rintro e w' ⟨rfl, ⟨nd, rfl⟩⟩; refine ⟨_, rfl, ?_⟩) | ((with_reducible refine gate_callee (f := 45) rfl ?_); refine goesL_ (some 61) rfl rfl Try.func45 (by kernel_rfl) rfl #[.int .i64 a0, .int .i64 (wrap64 (1 + t245))] rfl (by (try simp only [List.map_toArray, List.map_cons, List.map_nil]); first | done | rfl | (simp only [List.length_drop, List.length_take]; rfl)) ?_; (with_reducible refine (sym_Bits.calls k1 a0 (wrap64 (1 + t245)) t246 _ A28.out).mono ?_); rintro e w40 ⟨rfl, hb⟩; refine ⟨_, rfl, ?_⟩; have n0_ := Aside0.mk (Kd.R_below (by (with_reducible repeat (first | apply Kd.R_alloc | apply Kd.R_drewN | apply Kd.R_drew)); exact HO_9.out) hb); have n1_ := Aside0.mk (below_step (by repeat (first | (with_reducible first | exact HB.out | apply below_alloc | apply pw_below_drewN | apply below_drew1) | exact HB.out)) hb); clear HO_9; clear HB; have HO_9 := n0_; have HB := n1_; clear n0_ n1_; (try clear hb); (try clear hb2); (try clear hk); (try clear hi)) | ((with_reducible refine gate_callee (f := 42) rfl ?_); refine goesL_ (some 64) rfl rfl Try.func42 (by kernel_rfl) rfl #[.string t246] rfl (by (try simp only [List.map_toArray, List.map_cons, List.map_nil]); first | done | rfl | (simp only [List.length_drop, List.length_take]; rfl)) ?_; (with_reducible refine (sym_Num.calls t246 t247 true _ A29.out).mono ?_); rintro e w41 ⟨rfl, hb⟩; refine ⟨_, rfl, ?_⟩; have n0_ := Aside0.mk (Kd.R_below (by (with_reducible repeat (first | apply Kd.R_alloc | apply Kd.R_drewN | apply Kd.R_drew)); exact HO_9.out) hb); have n1_ := Aside0.mk (below_step (by repeat (first | (with_reducible first | exact HB.out | apply below_alloc | apply pw_below_drewN | apply below_drew1) | exact HB.out)) hb); clear HO_9; clear HB; have HO_9 := n0_; have HB := n1_; clear n0_ n1_; (try clear hb); (try clear hb2); (try clear hk); (try clear hi)) | ((with_reducible refine gate_callee (f := 45) rfl ?_); refine goesL_ (some 69) rfl rfl Try.func45 (by kernel_rfl) rfl #[.int .i64 a0, .int .i64 a1] rfl (by (try simp only [List.map_toArray, List.map_cons, List.map_nil]); first | done | rfl | (simp only [List.length_drop, List.length_take]; rfl)) ?_; (with_reducible refine (sym_Bits.calls k1 a0 a1 t249 _ A30.out).mono ?_); rintro e w42 ⟨rfl, hb⟩; refine ⟨_, rfl, ?_⟩; have n0_ := Aside0.mk (Kd.R_below (by (with_reducible repeat (first | apply Kd.R_alloc | apply Kd.R_drewN | apply Kd.R_drew)); exact HO_9.out) hb); have n1_ := Aside0.mk (below_step (by repeat (first | (with_reducible first | exact HB.out | apply below_alloc | apply pw_below_drewN | apply below_drew1) | exact HB.out)) hb); clear HO_9; clear HB; have HO_9 := n0_; have HB := n1_; clear n0_ n1_; (try clear hb); (try clear hb2); (try clear hk); (try clear hi)) | ((with_reducible refine gate_callee (f := 36) rfl ?_); refine goesL_ (some 72) rfl rfl Try.func36 (by kernel_rfl) rfl #[.int .i64 a0, .int .i64 a1] rfl (by (try simp only [List.map_toArray, List.map_cons, List.map_nil]); first | done | rfl | (simp only [List.length_drop, List.length_take]; rfl)) ?_; (with_reducible refine (plaitingref1_Bits.calls k1 a0 a1 t250 _ A31.out).mono ?_); rintro e w' ⟨rfl, ⟨nd, rfl⟩⟩; refine ⟨_, rfl, ?_⟩) | (go_at_call 36; (with_reducible refine (plaitingref1_Bits.calls k1 a0 (wrap64 (1 + t245)) t251 _ A33.out).mono ?_); rintro e w' ⟨rfl, ⟨nd, rfl⟩⟩))
                      go_ret
                      exact ⟨by first | rfl | (simp [errW_none, errW_some] <;> rfl) | (simp only [← hji37, ← hji39]; first | rfl | (simp [errW_none, errW_some] <;> rfl)) | (simp [*, errW_none, errW_some] <;> rfl), by repeat (first | (with_reducible first | exact HB.out | apply below_alloc | apply pw_below_drewN | apply below_drew1) | exact HB.out)⟩
                    · rw [if_neg c38] at H
                      exact absurd H (by simp)
                  · replace c36 := Bool.eq_false_iff.mpr c36
                    subst c36
                    have H1 : (some false) = some r := by rw [if_neg (show ¬ (false = true) by decide)] at H; exact H
                    clear H
                    have H := H1
                    clear H1
                    obtain rfl := Option.some.inj H
                    go_wp2_with (first | ((with_reducible refine gate_callee (f := 44) rfl ?_); refine goesL_ (some 57) rfl rfl Try.func44 (by kernel_rfl) rfl #[.int .i64 a1, .int .i64 62] rfl (by (try simp only [List.map_toArray, List.map_cons, List.map_nil]); first | done | rfl | (simp only [List.length_drop, List.length_take]; rfl)) ?_; (with_reducible refine (plaitinglaw1_within.calls a1 62 t245 _ A27.out).mono ?_); rintro e w' ⟨rfl, ⟨nd, rfl⟩⟩; refine ⟨_, rfl, ?_⟩) | ((with_reducible refine gate_callee (f := 45) rfl ?_); refine goesL_ (some 61) rfl rfl Try.func45 (by kernel_rfl) rfl #[.int .i64 a0, .int .i64 (wrap64 (1 + t245))] rfl (by (try simp only [List.map_toArray, List.map_cons, List.map_nil]); first | done | rfl | (simp only [List.length_drop, List.length_take]; rfl)) ?_; (with_reducible refine (sym_Bits.calls k1 a0 (wrap64 (1 + t245)) t246 _ A28.out).mono ?_); rintro e w43 ⟨rfl, hb⟩; refine ⟨_, rfl, ?_⟩; have n0_ := Aside0.mk (Kd.R_below (by (with_reducible repeat (first | apply Kd.R_alloc | apply Kd.R_drewN | apply Kd.R_drew)); exact HO_9.out) hb); have n1_ := Aside0.mk (below_step (by repeat (first | (with_reducible first | exact HB.out | apply below_alloc | apply pw_below_drewN | apply below_drew1) | exact HB.out)) hb); clear HO_9; clear HB; have HO_9 := n0_; have HB := n1_; clear n0_ n1_; (try clear hb); (try clear hb2); (try clear hk); (try clear hi)) | ((with_reducible refine gate_callee (f := 42) rfl ?_); refine goesL_ (some 64) rfl rfl Try.func42 (by kernel_rfl) rfl #[.string t246] rfl (by (try simp only [List.map_toArray, List.map_cons, List.map_nil]); first | done | rfl | (simp only [List.length_drop, List.length_take]; rfl)) ?_; (with_reducible refine (sym_Num.calls t246 t247 false _ A29.out).mono ?_); rintro e w44 ⟨rfl, hb⟩; refine ⟨_, rfl, ?_⟩; have n0_ := Aside0.mk (Kd.R_below (by (with_reducible repeat (first | apply Kd.R_alloc | apply Kd.R_drewN | apply Kd.R_drew)); exact HO_9.out) hb); have n1_ := Aside0.mk (below_step (by repeat (first | (with_reducible first | exact HB.out | apply below_alloc | apply pw_below_drewN | apply below_drew1) | exact HB.out)) hb); clear HO_9; clear HB; have HO_9 := n0_; have HB := n1_; clear n0_ n1_; (try clear hb); (try clear hb2); (try clear hk); (try clear hi)) | ((with_reducible refine gate_callee (f := 45) rfl ?_); refine goesL_ (some 69) rfl rfl Try.func45 (by kernel_rfl) rfl #[.int .i64 a0, .int .i64 a1] rfl (by (try simp only [List.map_toArray, List.map_cons, List.map_nil]); first | done | rfl | (simp only [List.length_drop, List.length_take]; rfl)) ?_; (with_reducible refine (sym_Bits.calls k1 a0 a1 t249 _ A30.out).mono ?_); rintro e w45 ⟨rfl, hb⟩; refine ⟨_, rfl, ?_⟩; have n0_ := Aside0.mk (Kd.R_below (by (with_reducible repeat (first | apply Kd.R_alloc | apply Kd.R_drewN | apply Kd.R_drew)); exact HO_9.out) hb); have n1_ := Aside0.mk (below_step (by repeat (first | (with_reducible first | exact HB.out | apply below_alloc | apply pw_below_drewN | apply below_drew1) | exact HB.out)) hb); clear HO_9; clear HB; have HO_9 := n0_; have HB := n1_; clear n0_ n1_; (try clear hb); (try clear hb2); (try clear hk); (try clear hi)) | ((with_reducible refine gate_callee (f := 36) rfl ?_); refine goesL_ (some 72) rfl rfl Try.func36 (by kernel_rfl) rfl #[.int .i64 a0, .int .i64 a1] rfl (by (try simp only [List.map_toArray, List.map_cons, List.map_nil]); first | done | rfl | (simp only [List.length_drop, List.length_take]; rfl)) ?_; (with_reducible refine (plaitingref1_Bits.calls k1 a0 a1 t250 _ A31.out).mono ?_); rintro e w' ⟨rfl, ⟨nd, rfl⟩⟩; refine ⟨_, rfl, ?_⟩) | (go_at_call 36; (with_reducible refine (plaitingref1_Bits.calls k1 a0 (wrap64 (1 + t245)) t251 _ A33.out).mono ?_); rintro e w' ⟨rfl, ⟨nd, rfl⟩⟩))
                    go_ret
                    exact ⟨by first | rfl | (simp [errW_none, errW_some] <;> rfl) | (simp [*, errW_none, errW_some] <;> rfl), by repeat (first | (with_reducible first | exact HB.out | apply below_alloc | apply pw_below_drewN | apply below_drew1) | exact HB.out)⟩
                · rw [if_neg c35] at H
                  have c35b0 : ((t246.size : Int) == (wrap64 (1 + t245))) = false := beq_eq_false_iff_ne.mpr c35
                  have c35b1 : ((t246.size : Int) != (wrap64 (1 + t245))) = true := bne_iff_ne.mpr c35
                  obtain rfl := Option.some.inj H
                  go_wp2_with (first | ((with_reducible refine gate_callee (f := 44) rfl ?_); refine goesL_ (some 57) rfl rfl Try.func44 (by kernel_rfl) rfl #[.int .i64 a1, .int .i64 62] rfl (by (try simp only [List.map_toArray, List.map_cons, List.map_nil]); first | done | rfl | (simp only [List.length_drop, List.length_take]; rfl)) ?_; (with_reducible refine (plaitinglaw1_within.calls a1 62 t245 _ A27.out).mono ?_); rintro e w' ⟨rfl, ⟨nd, rfl⟩⟩; refine ⟨_, rfl, ?_⟩) | ((with_reducible refine gate_callee (f := 45) rfl ?_); refine goesL_ (some 61) rfl rfl Try.func45 (by kernel_rfl) rfl #[.int .i64 a0, .int .i64 (wrap64 (1 + t245))] rfl (by (try simp only [List.map_toArray, List.map_cons, List.map_nil]); first | done | rfl | (simp only [List.length_drop, List.length_take]; rfl)) ?_; (with_reducible refine (sym_Bits.calls k1 a0 (wrap64 (1 + t245)) t246 _ A28.out).mono ?_); rintro e w46 ⟨rfl, hb⟩; refine ⟨_, rfl, ?_⟩; have n0_ := Aside0.mk (Kd.R_below (by (with_reducible repeat (first | apply Kd.R_alloc | apply Kd.R_drewN | apply Kd.R_drew)); exact HO_9.out) hb); have n1_ := Aside0.mk (below_step (by repeat (first | (with_reducible first | exact HB.out | apply below_alloc | apply pw_below_drewN | apply below_drew1) | exact HB.out)) hb); clear HO_9; clear HB; have HO_9 := n0_; have HB := n1_; clear n0_ n1_; (try clear hb); (try clear hb2); (try clear hk); (try clear hi)) | ((with_reducible refine gate_callee (f := 42) rfl ?_); refine goesL_ (some 64) rfl rfl Try.func42 (by kernel_rfl) rfl #[.string t246] rfl (by (try simp only [List.map_toArray, List.map_cons, List.map_nil]); first | done | rfl | (simp only [List.length_drop, List.length_take]; rfl)) ?_; (with_reducible refine (sym_Num.calls t246 t247 t248 _ A29.out).mono ?_); rintro e w47 ⟨rfl, hb⟩; refine ⟨_, rfl, ?_⟩; have n0_ := Aside0.mk (Kd.R_below (by (with_reducible repeat (first | apply Kd.R_alloc | apply Kd.R_drewN | apply Kd.R_drew)); exact HO_9.out) hb); have n1_ := Aside0.mk (below_step (by repeat (first | (with_reducible first | exact HB.out | apply below_alloc | apply pw_below_drewN | apply below_drew1) | exact HB.out)) hb); clear HO_9; clear HB; have HO_9 := n0_; have HB := n1_; clear n0_ n1_; (try clear hb); (try clear hb2); (try clear hk); (try clear hi)) | ((with_reducible refine gate_callee (f := 45) rfl ?_); refine goesL_ (some 69) rfl rfl Try.func45 (by kernel_rfl) rfl #[.int .i64 a0, .int .i64 a1] rfl (by (try simp only [List.map_toArray, List.map_cons, List.map_nil]); first | done | rfl | (simp only [List.length_drop, List.length_take]; rfl)) ?_; (with_reducible refine (sym_Bits.calls k1 a0 a1 t249 _ A30.out).mono ?_); rintro e w48 ⟨rfl, hb⟩; refine ⟨_, rfl, ?_⟩; have n0_ := Aside0.mk (Kd.R_below (by (with_reducible repeat (first | apply Kd.R_alloc | apply Kd.R_drewN | apply Kd.R_drew)); exact HO_9.out) hb); have n1_ := Aside0.mk (below_step (by repeat (first | (with_reducible first | exact HB.out | apply below_alloc | apply pw_below_drewN | apply below_drew1) | exact HB.out)) hb); clear HO_9; clear HB; have HO_9 := n0_; have HB := n1_; clear n0_ n1_; (try clear hb); (try clear hb2); (try clear hk); (try clear hi)) | ((with_reducible refine gate_callee (f := 36) rfl ?_); refine goesL_ (some 72) rfl rfl Try.func36 (by kernel_rfl) rfl #[.int .i64 a0, .int .i64 a1] rfl (by (try simp only [List.map_toArray, List.map_cons, List.map_nil]); first | done | rfl | (simp only [List.length_drop, List.length_take]; rfl)) ?_; (with_reducible refine (plaitingref1_Bits.calls k1 a0 a1 t250 _ A31.out).mono ?_); rintro e w' ⟨rfl, ⟨nd, rfl⟩⟩; refine ⟨_, rfl, ?_⟩) | (go_at_call 36; (with_reducible refine (plaitingref1_Bits.calls k1 a0 (wrap64 (1 + t245)) t251 _ A33.out).mono ?_); rintro e w' ⟨rfl, ⟨nd, rfl⟩⟩))
                  go_ret
                  exact ⟨by first | rfl | (simp [errW_none, errW_some] <;> rfl) | (simp [*, errW_none, errW_some] <;> rfl), by repeat (first | (with_reducible first | exact HB.out | apply below_alloc | apply pw_below_drewN | apply below_drew1) | exact HB.out)⟩
              · rw [if_neg c34] at H
                have c34b0 : (t246.toList == t251.toList) = false := beq_eq_false_iff_ne.mpr c34
                have c34b1 : (t246.toList != t251.toList) = true := bne_iff_ne.mpr c34
                obtain rfl := Option.some.inj H
                go_wp2_with (first | ((with_reducible refine gate_callee (f := 44) rfl ?_); refine goesL_ (some 57) rfl rfl Try.func44 (by kernel_rfl) rfl #[.int .i64 a1, .int .i64 62] rfl (by (try simp only [List.map_toArray, List.map_cons, List.map_nil]); first | done | rfl | (simp only [List.length_drop, List.length_take]; rfl)) ?_; (with_reducible refine (plaitinglaw1_within.calls a1 62 t245 _ A27.out).mono ?_); rintro e w' ⟨rfl, ⟨nd, rfl⟩⟩; refine ⟨_, rfl, ?_⟩) | ((with_reducible refine gate_callee (f := 45) rfl ?_); refine goesL_ (some 61) rfl rfl Try.func45 (by kernel_rfl) rfl #[.int .i64 a0, .int .i64 (wrap64 (1 + t245))] rfl (by (try simp only [List.map_toArray, List.map_cons, List.map_nil]); first | done | rfl | (simp only [List.length_drop, List.length_take]; rfl)) ?_; (with_reducible refine (sym_Bits.calls k1 a0 (wrap64 (1 + t245)) t246 _ A28.out).mono ?_); rintro e w49 ⟨rfl, hb⟩; refine ⟨_, rfl, ?_⟩; have n0_ := Aside0.mk (Kd.R_below (by (with_reducible repeat (first | apply Kd.R_alloc | apply Kd.R_drewN | apply Kd.R_drew)); exact HO_9.out) hb); have n1_ := Aside0.mk (below_step (by repeat (first | (with_reducible first | exact HB.out | apply below_alloc | apply pw_below_drewN | apply below_drew1) | exact HB.out)) hb); clear HO_9; clear HB; have HO_9 := n0_; have HB := n1_; clear n0_ n1_; (try clear hb); (try clear hb2); (try clear hk); (try clear hi)) | ((with_reducible refine gate_callee (f := 42) rfl ?_); refine goesL_ (some 64) rfl rfl Try.func42 (by kernel_rfl) rfl #[.string t246] rfl (by (try simp only [List.map_toArray, List.map_cons, List.map_nil]); first | done | rfl | (simp only [List.length_drop, List.length_take]; rfl)) ?_; (with_reducible refine (sym_Num.calls t246 t247 t248 _ A29.out).mono ?_); rintro e w50 ⟨rfl, hb⟩; refine ⟨_, rfl, ?_⟩; have n0_ := Aside0.mk (Kd.R_below (by (with_reducible repeat (first | apply Kd.R_alloc | apply Kd.R_drewN | apply Kd.R_drew)); exact HO_9.out) hb); have n1_ := Aside0.mk (below_step (by repeat (first | (with_reducible first | exact HB.out | apply below_alloc | apply pw_below_drewN | apply below_drew1) | exact HB.out)) hb); clear HO_9; clear HB; have HO_9 := n0_; have HB := n1_; clear n0_ n1_; (try clear hb); (try clear hb2); (try clear hk); (try clear hi)) | ((with_reducible refine gate_callee (f := 45) rfl ?_); refine goesL_ (some 69) rfl rfl Try.func45 (by kernel_rfl) rfl #[.int .i64 a0, .int .i64 a1] rfl (by (try simp only [List.map_toArray, List.map_cons, List.map_nil]); first | done | rfl | (simp only [List.length_drop, List.length_take]; rfl)) ?_; (with_reducible refine (sym_Bits.calls k1 a0 a1 t249 _ A30.out).mono ?_); rintro e w51 ⟨rfl, hb⟩; refine ⟨_, rfl, ?_⟩; have n0_ := Aside0.mk (Kd.R_below (by (with_reducible repeat (first | apply Kd.R_alloc | apply Kd.R_drewN | apply Kd.R_drew)); exact HO_9.out) hb); have n1_ := Aside0.mk (below_step (by repeat (first | (with_reducible first | exact HB.out | apply below_alloc | apply pw_below_drewN | apply below_drew1) | exact HB.out)) hb); clear HO_9; clear HB; have HO_9 := n0_; have HB := n1_; clear n0_ n1_; (try clear hb); (try clear hb2); (try clear hk); (try clear hi)) | ((with_reducible refine gate_callee (f := 36) rfl ?_); refine goesL_ (some 72) rfl rfl Try.func36 (by kernel_rfl) rfl #[.int .i64 a0, .int .i64 a1] rfl (by (try simp only [List.map_toArray, List.map_cons, List.map_nil]); first | done | rfl | (simp only [List.length_drop, List.length_take]; rfl)) ?_; (with_reducible refine (plaitingref1_Bits.calls k1 a0 a1 t250 _ A31.out).mono ?_); rintro e w' ⟨rfl, ⟨nd, rfl⟩⟩; refine ⟨_, rfl, ?_⟩) | (go_at_call 36; (with_reducible refine (plaitingref1_Bits.calls k1 a0 (wrap64 (1 + t245)) t251 _ A33.out).mono ?_); rintro e w' ⟨rfl, ⟨nd, rfl⟩⟩))
                go_ret
                exact ⟨by first | rfl | (simp [errW_none, errW_some] <;> rfl) | (simp [*, errW_none, errW_some] <;> rfl), by repeat (first | (with_reducible first | exact HB.out | apply below_alloc | apply pw_below_drewN | apply below_drew1) | exact HB.out)⟩
            · rw [if_neg c32] at H
              have c32b0 : (t249.toList == t250.toList) = false := beq_eq_false_iff_ne.mpr c32
              have c32b1 : (t249.toList != t250.toList) = true := bne_iff_ne.mpr c32
              obtain rfl := Option.some.inj H
              go_wp2_with (first | ((with_reducible refine gate_callee (f := 44) rfl ?_); refine goesL_ (some 57) rfl rfl Try.func44 (by kernel_rfl) rfl #[.int .i64 a1, .int .i64 62] rfl (by (try simp only [List.map_toArray, List.map_cons, List.map_nil]); first | done | rfl | (simp only [List.length_drop, List.length_take]; rfl)) ?_; (with_reducible refine (plaitinglaw1_within.calls a1 62 t245 _ A27.out).mono ?_); rintro e w' ⟨rfl, ⟨nd, rfl⟩⟩; refine ⟨_, rfl, ?_⟩) | ((with_reducible refine gate_callee (f := 45) rfl ?_); refine goesL_ (some 61) rfl rfl Try.func45 (by kernel_rfl) rfl #[.int .i64 a0, .int .i64 (wrap64 (1 + t245))] rfl (by (try simp only [List.map_toArray, List.map_cons, List.map_nil]); first | done | rfl | (simp only [List.length_drop, List.length_take]; rfl)) ?_; (with_reducible refine (sym_Bits.calls k1 a0 (wrap64 (1 + t245)) t246 _ A28.out).mono ?_); rintro e w52 ⟨rfl, hb⟩; refine ⟨_, rfl, ?_⟩; have n0_ := Aside0.mk (Kd.R_below (by (with_reducible repeat (first | apply Kd.R_alloc | apply Kd.R_drewN | apply Kd.R_drew)); exact HO_9.out) hb); have n1_ := Aside0.mk (below_step (by repeat (first | (with_reducible first | exact HB.out | apply below_alloc | apply pw_below_drewN | apply below_drew1) | exact HB.out)) hb); clear HO_9; clear HB; have HO_9 := n0_; have HB := n1_; clear n0_ n1_; (try clear hb); (try clear hb2); (try clear hk); (try clear hi)) | ((with_reducible refine gate_callee (f := 42) rfl ?_); refine goesL_ (some 64) rfl rfl Try.func42 (by kernel_rfl) rfl #[.string t246] rfl (by (try simp only [List.map_toArray, List.map_cons, List.map_nil]); first | done | rfl | (simp only [List.length_drop, List.length_take]; rfl)) ?_; (with_reducible refine (sym_Num.calls t246 t247 t248 _ A29.out).mono ?_); rintro e w53 ⟨rfl, hb⟩; refine ⟨_, rfl, ?_⟩; have n0_ := Aside0.mk (Kd.R_below (by (with_reducible repeat (first | apply Kd.R_alloc | apply Kd.R_drewN | apply Kd.R_drew)); exact HO_9.out) hb); have n1_ := Aside0.mk (below_step (by repeat (first | (with_reducible first | exact HB.out | apply below_alloc | apply pw_below_drewN | apply below_drew1) | exact HB.out)) hb); clear HO_9; clear HB; have HO_9 := n0_; have HB := n1_; clear n0_ n1_; (try clear hb); (try clear hb2); (try clear hk); (try clear hi)) | ((with_reducible refine gate_callee (f := 45) rfl ?_); refine goesL_ (some 69) rfl rfl Try.func45 (by kernel_rfl) rfl #[.int .i64 a0, .int .i64 a1] rfl (by (try simp only [List.map_toArray, List.map_cons, List.map_nil]); first | done | rfl | (simp only [List.length_drop, List.length_take]; rfl)) ?_; (with_reducible refine (sym_Bits.calls k1 a0 a1 t249 _ A30.out).mono ?_); rintro e w54 ⟨rfl, hb⟩; refine ⟨_, rfl, ?_⟩; have n0_ := Aside0.mk (Kd.R_below (by (with_reducible repeat (first | apply Kd.R_alloc | apply Kd.R_drewN | apply Kd.R_drew)); exact HO_9.out) hb); have n1_ := Aside0.mk (below_step (by repeat (first | (with_reducible first | exact HB.out | apply below_alloc | apply pw_below_drewN | apply below_drew1) | exact HB.out)) hb); clear HO_9; clear HB; have HO_9 := n0_; have HB := n1_; clear n0_ n1_; (try clear hb); (try clear hb2); (try clear hk); (try clear hi)) | ((with_reducible refine gate_callee (f := 36) rfl ?_); refine goesL_ (some 72) rfl rfl Try.func36 (by kernel_rfl) rfl #[.int .i64 a0, .int .i64 a1] rfl (by (try simp only [List.map_toArray, List.map_cons, List.map_nil]); first | done | rfl | (simp only [List.length_drop, List.length_take]; rfl)) ?_; (with_reducible refine (plaitingref1_Bits.calls k1 a0 a1 t250 _ A31.out).mono ?_); rintro e w' ⟨rfl, ⟨nd, rfl⟩⟩; refine ⟨_, rfl, ?_⟩))
              go_ret
              exact ⟨by first | rfl | (simp [errW_none, errW_some] <;> rfl) | (simp [*, errW_none, errW_some] <;> rfl), by repeat (first | (with_reducible first | exact HB.out | apply below_alloc | apply pw_below_drewN | apply below_drew1) | exact HB.out)⟩
  · replace c6 := Bool.eq_false_iff.mpr c6
    subst c6
    have H1 : (some false) = some r := by rw [if_neg (show ¬ (false = true) by decide)] at H; exact H
    clear H
    have H := H1
    clear H1
    obtain rfl := Option.some.inj H
    go_enter Try.func10, Try.ntmps10
    go_wp2_with (first | ((with_reducible refine gate_callee (f := 37) rfl ?_); refine goesL_ (some 19) rfl rfl Try.func37 (by kernel_rfl) rfl #[] rfl (by (try simp only [List.map_toArray, List.map_cons, List.map_nil]); first | done | rfl | (simp only [List.length_drop, List.length_take]; rfl)) ?_; (with_reducible refine (plaitinglaw1_known.calls k  false _ A5.out).mono ?_); rintro e w55 ⟨rfl, hb⟩; refine ⟨_, rfl, ?_⟩; have n0_ := Aside0.mk (below_step (by repeat (first | (with_reducible first | exact HB.out | apply below_alloc | apply pw_below_drewN | apply below_drew1) | exact HB.out)) hb); clear HB; have HB := n0_; clear n0_; (try clear hb); (try clear hb2); (try clear hk); (try clear hi)))
    go_ret
    exact ⟨by first | rfl | (simp [errW_none, errW_some] <;> rfl) | (simp [*, errW_none, errW_some] <;> rfl), by repeat (first | (with_reducible first | exact HB.out | apply below_alloc | apply pw_below_drewN | apply below_drew1) | exact HB.out)⟩

/-- THE ONE PURE STATEMENT of plaitinglaw1_SymBits: yours. -/
def plaitinglaw1_SymBits.Pure : Prop := ∀ (a0 : Int) (a1 : Int) (l2 : List Int) (a3 : ByteArray), (Lit.int .i64 a0).wf = true → (Lit.int .i64 a1).wf = true → l2.length ≤ maxLen → l2.length * 8 ≤ 140737488351232 → (∀ x ∈ l2, (Lit.int .i64 x).wf = true) → a3.size ≤ 140737488351232 → ∃ k, plaitinglaw1_SymBits.f k a0 a1 l2 a3 = some true
theorem plaitinglaw1_SymBits.walk (P : plaitinglaw1_SymBits.Pure) (a0 : Int) (a1 : Int) (a2 : Option Addr) (len2 cap2 : Nat) (z2 : List Int) (a3 : ByteArray) (w : World) (w0 : (Lit.int .i64 a0).wf = true) (w1 : (Lit.int .i64 a1).wf = true) (w2 : (a2 = none ∧ len2 = 0 ∧ cap2 = 0 ∧ z2 = []) ∨ ∃ x, a2 = some x ∧ len2 ≤ cap2 ∧ cap2 ≤ maxLen ∧ z2.length = cap2 ∧ (∀ i, i < z2.length → w.cell? (x.add i) = some (.int .i64 (z2.getD i 0))) ∧ ∀ n ∈ z2, (Lit.int .i64 n).wf = true) (y2 : len2 * 8 ≤ 140737488351232) (w3 : a3.size ≤ 140737488351232) :
    Calls Try.prog 10 #[.int .i64 a0, .int .i64 a1, .slice a2 len2 cap2, .string a3] w fun e w' => e = .returned (.bool true) ∧ Below w.heap.size w w' := by
  obtain ⟨l2, rfl, hr2, hm2, hw2, hc2⟩ := ReadsInt.ofRowC w2
  obtain ⟨k, h⟩ := P a0 a1 l2 a3 w0 w1 hm2 y2 hw2 w3
  refine (plaitinglaw1_SymBits.calls k a0 a1 _ _ l2 a3 true w (Kd.C_of_reads (d := (0 : Int)) (h1 := fun _ => rfl) hr2) hc2 h).mono ?_
  rintro e w' ⟨rfl, hd⟩
  exact ⟨rfl, hd⟩

end Go.Proofs.Ytnggjnhfdjjphaa.PTwo
