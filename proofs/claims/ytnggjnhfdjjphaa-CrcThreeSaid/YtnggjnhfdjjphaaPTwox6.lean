-- Written by the session's own program (wip/gen).
import Derived.Test.YtnggjnhfdjjphaaPTwox0
import Derived.Test.YtnggjnhfdjjphaaPTwox1
import Derived.Test.YtnggjnhfdjjphaaPTwox3
import Derived.Test.YtnggjnhfdjjphaaPTwox5
namespace Go.Proofs.Ytnggjnhfdjjphaa.PTwo
open Go.RowKit Go.Proofs.YtnggjnhfdjjphaaW.PrintWords Go.Proofs.YtnggjnhfdjjphaaW.PrintLast Go.Proofs.YtnggjnhfdjjphaaW.PrintMore
attribute [local go_sem] max2_int min2_int max_two min_two max_three min_three max_four min_four   -- for this text's walks alone
set_option linter.unusedVariables false
set_option linter.unusedSimpArgs false

/-! ### plaitinglaw2_CrcThree: function 8 -/
def plaitinglaw2_CrcThree.f (k : Nat) (a0 : Int) (a1 : Int) (a2 : Int) (a3 : Int) : Option (Bool) := (plaitinglaw2_known.f k).bind fun t120 => (if t120 = true then ((plaitinglaw2_within.f a0 60).bind fun t121 => ((plaitingref1_Bits.f k a1 (wrap64 (1 + t121))).bind fun t122 => ((plaitingref1_Bits.f k a2 (wrap64 (1 + t121))).bind fun t123 => ((plaitingref1_Bits.f k a3 (wrap64 (1 + t121))).bind fun t124 => ((plaitingref1_Bits.f k (Go.bits .xor .i64 (Go.bits .xor .i64 a1 a2) a3) (wrap64 (1 + t121))).bind fun t125 => ((crc_Sum.f t125).bind fun t126 => ((crc_Sum.f t122).bind fun t127 => ((crc_Sum.f t123).bind fun t128 => ((crc_Sum.f t124).bind fun t129 => (some (t126 == (Go.bits .xor .i64 (Go.bits .xor .i64 t127 t128) t129)))))))))))) else (some false))
theorem plaitinglaw2_CrcThree.mono : ∀ a0 a1 a2 a3 k, LeO (plaitinglaw2_CrcThree.f k a0 a1 a2 a3) (plaitinglaw2_CrcThree.f (k + 1) a0 a1 a2 a3) := by
  intro a0 a1 a2 a3 k
  unfold plaitinglaw2_CrcThree.f
  repeat' first
      | (with_reducible exact plaitinglaw2_known.mono _)
      | (with_reducible exact plaitingref1_Bits.mono _ _ _)
      | (with_reducible exact LeO.refl _)
      | (with_reducible exact LeO.none _)
      | (with_reducible refine LeO.ite ?_ ?_)
      | (with_reducible refine LeO.bind ?_ (fun _ => ?_))
      | exact plaitinglaw2_known.mono _
      | exact plaitingref1_Bits.mono _ _ _
      | exact LeO.none _
      | refine LeO.ite ?_ ?_
      | refine LeO.bind ?_ (fun _ => ?_)
set_option maxHeartbeats 8000000 in
set_option maxRecDepth 100000 in
theorem plaitinglaw2_CrcThree.calls (k : Nat) (a0 : Int) (a1 : Int) (a2 : Int) (a3 : Int) (r : Bool) (w : World) (h : plaitinglaw2_CrcThree.f k a0 a1 a2 a3 = some r) :
    Calls Try.prog 8 #[.int .i64 a0, .int .i64 a1, .int .i64 a2, .int .i64 a3] w fun e w' => e = .returned (.bool r) ∧ Below w.heap.size w w' := by
  have HB := Aside0.mk (Below.refl w.heap.size w)
  have H : ((plaitinglaw2_known.f k).bind fun t120 => (if t120 = true then ((plaitinglaw2_within.f a0 60).bind fun t121 => ((plaitingref1_Bits.f k a1 (wrap64 (1 + t121))).bind fun t122 => ((plaitingref1_Bits.f k a2 (wrap64 (1 + t121))).bind fun t123 => ((plaitingref1_Bits.f k a3 (wrap64 (1 + t121))).bind fun t124 => ((plaitingref1_Bits.f k (Go.bits .xor .i64 (Go.bits .xor .i64 a1 a2) a3) (wrap64 (1 + t121))).bind fun t125 => ((crc_Sum.f t125).bind fun t126 => ((crc_Sum.f t122).bind fun t127 => ((crc_Sum.f t123).bind fun t128 => ((crc_Sum.f t124).bind fun t129 => (some (t126 == (Go.bits .xor .i64 (Go.bits .xor .i64 t127 t128) t129)))))))))))) else (some false))) = some r := h
  clear h
  replace H := Option.bind_eq_some_iff.mp H
  obtain ⟨t120, A50, H⟩ := H
  replace H : (if t120 = true then ((plaitinglaw2_within.f a0 60).bind fun t121 => ((plaitingref1_Bits.f k a1 (wrap64 (1 + t121))).bind fun t122 => ((plaitingref1_Bits.f k a2 (wrap64 (1 + t121))).bind fun t123 => ((plaitingref1_Bits.f k a3 (wrap64 (1 + t121))).bind fun t124 => ((plaitingref1_Bits.f k (Go.bits .xor .i64 (Go.bits .xor .i64 a1 a2) a3) (wrap64 (1 + t121))).bind fun t125 => ((crc_Sum.f t125).bind fun t126 => ((crc_Sum.f t122).bind fun t127 => ((crc_Sum.f t123).bind fun t128 => ((crc_Sum.f t124).bind fun t129 => (some (t126 == (Go.bits .xor .i64 (Go.bits .xor .i64 t127 t128) t129)))))))))))) else (some false)) = some r := H
  have A5 := Aside0.mk A50
  clear A50
  by_cases c6 : t120 = true
  · subst c6
    have H1 : ((plaitinglaw2_within.f a0 60).bind fun t121 => ((plaitingref1_Bits.f k a1 (wrap64 (1 + t121))).bind fun t122 => ((plaitingref1_Bits.f k a2 (wrap64 (1 + t121))).bind fun t123 => ((plaitingref1_Bits.f k a3 (wrap64 (1 + t121))).bind fun t124 => ((plaitingref1_Bits.f k (Go.bits .xor .i64 (Go.bits .xor .i64 a1 a2) a3) (wrap64 (1 + t121))).bind fun t125 => ((crc_Sum.f t125).bind fun t126 => ((crc_Sum.f t122).bind fun t127 => ((crc_Sum.f t123).bind fun t128 => ((crc_Sum.f t124).bind fun t129 => (some (t126 == (Go.bits .xor .i64 (Go.bits .xor .i64 t127 t128) t129)))))))))))) = some r := by rw [if_pos rfl] at H; exact H
    clear H
    have H := H1
    clear H1
    replace H := Option.bind_eq_some_iff.mp H
    obtain ⟨t121, A70, H⟩ := H
    replace H : ((plaitingref1_Bits.f k a1 (wrap64 (1 + t121))).bind fun t122 => ((plaitingref1_Bits.f k a2 (wrap64 (1 + t121))).bind fun t123 => ((plaitingref1_Bits.f k a3 (wrap64 (1 + t121))).bind fun t124 => ((plaitingref1_Bits.f k (Go.bits .xor .i64 (Go.bits .xor .i64 a1 a2) a3) (wrap64 (1 + t121))).bind fun t125 => ((crc_Sum.f t125).bind fun t126 => ((crc_Sum.f t122).bind fun t127 => ((crc_Sum.f t123).bind fun t128 => ((crc_Sum.f t124).bind fun t129 => (some (t126 == (Go.bits .xor .i64 (Go.bits .xor .i64 t127 t128) t129))))))))))) = some r := H
    have A7 := Aside0.mk A70
    clear A70
    replace H := Option.bind_eq_some_iff.mp H
    obtain ⟨t122, A80, H⟩ := H
    replace H : ((plaitingref1_Bits.f k a2 (wrap64 (1 + t121))).bind fun t123 => ((plaitingref1_Bits.f k a3 (wrap64 (1 + t121))).bind fun t124 => ((plaitingref1_Bits.f k (Go.bits .xor .i64 (Go.bits .xor .i64 a1 a2) a3) (wrap64 (1 + t121))).bind fun t125 => ((crc_Sum.f t125).bind fun t126 => ((crc_Sum.f t122).bind fun t127 => ((crc_Sum.f t123).bind fun t128 => ((crc_Sum.f t124).bind fun t129 => (some (t126 == (Go.bits .xor .i64 (Go.bits .xor .i64 t127 t128) t129)))))))))) = some r := H
    have A8 := Aside0.mk A80
    clear A80
    replace H := Option.bind_eq_some_iff.mp H
    obtain ⟨t123, A90, H⟩ := H
    replace H : ((plaitingref1_Bits.f k a3 (wrap64 (1 + t121))).bind fun t124 => ((plaitingref1_Bits.f k (Go.bits .xor .i64 (Go.bits .xor .i64 a1 a2) a3) (wrap64 (1 + t121))).bind fun t125 => ((crc_Sum.f t125).bind fun t126 => ((crc_Sum.f t122).bind fun t127 => ((crc_Sum.f t123).bind fun t128 => ((crc_Sum.f t124).bind fun t129 => (some (t126 == (Go.bits .xor .i64 (Go.bits .xor .i64 t127 t128) t129))))))))) = some r := H
    have A9 := Aside0.mk A90
    clear A90
    replace H := Option.bind_eq_some_iff.mp H
    obtain ⟨t124, A100, H⟩ := H
    replace H : ((plaitingref1_Bits.f k (Go.bits .xor .i64 (Go.bits .xor .i64 a1 a2) a3) (wrap64 (1 + t121))).bind fun t125 => ((crc_Sum.f t125).bind fun t126 => ((crc_Sum.f t122).bind fun t127 => ((crc_Sum.f t123).bind fun t128 => ((crc_Sum.f t124).bind fun t129 => (some (t126 == (Go.bits .xor .i64 (Go.bits .xor .i64 t127 t128) t129)))))))) = some r := H
    have A10 := Aside0.mk A100
    clear A100
    replace H := Option.bind_eq_some_iff.mp H
    obtain ⟨t125, A110, H⟩ := H
    replace H : ((crc_Sum.f t125).bind fun t126 => ((crc_Sum.f t122).bind fun t127 => ((crc_Sum.f t123).bind fun t128 => ((crc_Sum.f t124).bind fun t129 => (some (t126 == (Go.bits .xor .i64 (Go.bits .xor .i64 t127 t128) t129))))))) = some r := H
    have A11 := Aside0.mk A110
    clear A110
    replace H := Option.bind_eq_some_iff.mp H
    obtain ⟨t126, A120, H⟩ := H
    replace H : ((crc_Sum.f t122).bind fun t127 => ((crc_Sum.f t123).bind fun t128 => ((crc_Sum.f t124).bind fun t129 => (some (t126 == (Go.bits .xor .i64 (Go.bits .xor .i64 t127 t128) t129)))))) = some r := H
    have A12 := Aside0.mk A120
    clear A120
    replace H := Option.bind_eq_some_iff.mp H
    obtain ⟨t127, A130, H⟩ := H
    replace H : ((crc_Sum.f t123).bind fun t128 => ((crc_Sum.f t124).bind fun t129 => (some (t126 == (Go.bits .xor .i64 (Go.bits .xor .i64 t127 t128) t129))))) = some r := H
    have A13 := Aside0.mk A130
    clear A130
    replace H := Option.bind_eq_some_iff.mp H
    obtain ⟨t128, A140, H⟩ := H
    replace H : ((crc_Sum.f t124).bind fun t129 => (some (t126 == (Go.bits .xor .i64 (Go.bits .xor .i64 t127 t128) t129)))) = some r := H
    have A14 := Aside0.mk A140
    clear A140
    replace H := Option.bind_eq_some_iff.mp H
    obtain ⟨t129, A150, H⟩ := H
    replace H : (some (t126 == (Go.bits .xor .i64 (Go.bits .xor .i64 t127 t128) t129))) = some r := H
    have A15 := Aside0.mk A150
    clear A150
    obtain rfl := Option.some.inj H
    go_enter Try.func8, Try.ntmps8
    go_wp2_with (first | ((with_reducible refine gate_callee (f := 33) rfl ?_); refine goesL_ (some 13) rfl rfl Try.func33 (by kernel_rfl) rfl #[] rfl (by (try simp only [List.map_toArray, List.map_cons, List.map_nil]); first | done | rfl | (simp only [List.length_drop, List.length_take]; rfl)) ?_; (with_reducible refine (plaitinglaw2_known.calls k  true _ A5.out).mono ?_); rintro e w16 ⟨rfl, hb⟩; refine ⟨_, rfl, ?_⟩; have n0_ := Aside0.mk (below_step (by repeat (first | (with_reducible first | exact HB.out | apply below_alloc | apply pw_below_drewN | apply below_drew1) | exact HB.out)) hb); clear HB; have HB := n0_; clear n0_; (try clear hb); (try clear hb2); (try clear hk); (try clear hi)) | ((with_reducible refine gate_callee (f := 34) rfl ?_); refine goesL_ (some 16) rfl rfl Try.func34 (by kernel_rfl) rfl #[.int .i64 a0, .int .i64 60] rfl (by (try simp only [List.map_toArray, List.map_cons, List.map_nil]); first | done | rfl | (simp only [List.length_drop, List.length_take]; rfl)) ?_; (with_reducible refine (plaitinglaw2_within.calls a0 60 t121 _ A7.out).mono ?_); rintro e w' ⟨rfl, ⟨nd, rfl⟩⟩; refine ⟨_, rfl, ?_⟩) | ((with_reducible refine gate_callee (f := 36) rfl ?_); refine goesL_ (some 20) rfl rfl Try.func36 (by kernel_rfl) rfl #[.int .i64 a1, .int .i64 (wrap64 (1 + t121))] rfl (by (try simp only [List.map_toArray, List.map_cons, List.map_nil]); first | done | rfl | (simp only [List.length_drop, List.length_take]; rfl)) ?_; (with_reducible refine (plaitingref1_Bits.calls k a1 (wrap64 (1 + t121)) t122 _ A8.out).mono ?_); rintro e w' ⟨rfl, ⟨nd, rfl⟩⟩; refine ⟨_, rfl, ?_⟩) | ((with_reducible refine gate_callee (f := 36) rfl ?_); refine goesL_ (some 23) rfl rfl Try.func36 (by kernel_rfl) rfl #[.int .i64 a2, .int .i64 (wrap64 (1 + t121))] rfl (by (try simp only [List.map_toArray, List.map_cons, List.map_nil]); first | done | rfl | (simp only [List.length_drop, List.length_take]; rfl)) ?_; (with_reducible refine (plaitingref1_Bits.calls k a2 (wrap64 (1 + t121)) t123 _ A9.out).mono ?_); rintro e w' ⟨rfl, ⟨nd, rfl⟩⟩; refine ⟨_, rfl, ?_⟩) | ((with_reducible refine gate_callee (f := 36) rfl ?_); refine goesL_ (some 26) rfl rfl Try.func36 (by kernel_rfl) rfl #[.int .i64 a3, .int .i64 (wrap64 (1 + t121))] rfl (by (try simp only [List.map_toArray, List.map_cons, List.map_nil]); first | done | rfl | (simp only [List.length_drop, List.length_take]; rfl)) ?_; (with_reducible refine (plaitingref1_Bits.calls k a3 (wrap64 (1 + t121)) t124 _ A10.out).mono ?_); rintro e w' ⟨rfl, ⟨nd, rfl⟩⟩; refine ⟨_, rfl, ?_⟩) | ((with_reducible refine gate_callee (f := 36) rfl ?_); refine goesL_ (some 33) rfl rfl Try.func36 (by kernel_rfl) rfl #[.int .i64 (Go.bits .xor .i64 (Go.bits .xor .i64 a1 a2) a3), .int .i64 (wrap64 (1 + t121))] rfl (by (try simp only [List.map_toArray, List.map_cons, List.map_nil]); first | done | rfl | (simp only [List.length_drop, List.length_take]; rfl)) ?_; (with_reducible refine (plaitingref1_Bits.calls k (Go.bits .xor .i64 (Go.bits .xor .i64 a1 a2) a3) (wrap64 (1 + t121)) t125 _ A11.out).mono ?_); rintro e w' ⟨rfl, ⟨nd, rfl⟩⟩; refine ⟨_, rfl, ?_⟩) | ((with_reducible refine gate_callee (f := 35) rfl ?_); refine goesL_ (some 34) rfl rfl Try.func35 (by kernel_rfl) rfl #[.string t125] rfl (by (try simp only [List.map_toArray, List.map_cons, List.map_nil]); first | done | rfl | (simp only [List.length_drop, List.length_take]; rfl)) ?_; (with_reducible refine (crc_Sum.calls t125 t126 _ A12.out).mono ?_); rintro e w17 ⟨rfl, hb⟩; refine ⟨_, rfl, ?_⟩; have n0_ := Aside0.mk (below_step (by repeat (first | (with_reducible first | exact HB.out | apply below_alloc | apply pw_below_drewN | apply below_drew1) | exact HB.out)) hb); clear HB; have HB := n0_; clear n0_; (try clear hb); (try clear hb2); (try clear hk); (try clear hi)) | ((with_reducible refine gate_callee (f := 35) rfl ?_); refine goesL_ (some 36) rfl rfl Try.func35 (by kernel_rfl) rfl #[.string t122] rfl (by (try simp only [List.map_toArray, List.map_cons, List.map_nil]); first | done | rfl | (simp only [List.length_drop, List.length_take]; rfl)) ?_; (with_reducible refine (crc_Sum.calls t122 t127 _ A13.out).mono ?_); rintro e w18 ⟨rfl, hb⟩; refine ⟨_, rfl, ?_⟩; have n0_ := Aside0.mk (below_step (by repeat (first | (with_reducible first | exact HB.out | apply below_alloc | apply pw_below_drewN | apply below_drew1) | exact HB.out)) hb); clear HB; have HB := n0_; clear n0_; (try clear hb); (try clear hb2); (try clear hk); (try clear hi)) | ((with_reducible refine gate_callee (f := 35) rfl ?_); refine goesL_ (some 38) rfl rfl Try.func35 (by kernel_rfl) rfl #[.string t123] rfl (by (try simp only [List.map_toArray, List.map_cons, List.map_nil]); first | done | rfl | (simp only [List.length_drop, List.length_take]; rfl)) ?_; (with_reducible refine (crc_Sum.calls t123 t128 _ A14.out).mono ?_); rintro e w19 ⟨rfl, hb⟩; refine ⟨_, rfl, ?_⟩; have n0_ := Aside0.mk (below_step (by repeat (first | (with_reducible first | exact HB.out | apply below_alloc | apply pw_below_drewN | apply below_drew1) | exact HB.out)) hb); clear HB; have HB := n0_; clear n0_; (try clear hb); (try clear hb2); (try clear hk); (try clear hi)) | ((with_reducible refine gate_callee (f := 35) rfl ?_); refine goesL_ (some 41) rfl rfl Try.func35 (by kernel_rfl) rfl #[.string t124] rfl (by (try simp only [List.map_toArray, List.map_cons, List.map_nil]); first | done | rfl | (simp only [List.length_drop, List.length_take]; rfl)) ?_; (with_reducible refine (crc_Sum.calls t124 t129 _ A15.out).mono ?_); rintro e w20 ⟨rfl, hb⟩; refine ⟨_, rfl, ?_⟩; have n0_ := Aside0.mk (below_step (by repeat (first | (with_reducible first | exact HB.out | apply below_alloc | apply pw_below_drewN | apply below_drew1) | exact HB.out)) hb); clear HB; have HB := n0_; clear n0_; (try clear hb); (try clear hb2); (try clear hk); (try clear hi)))
    go_ret
    exact ⟨by first | rfl | (simp [errW_none, errW_some] <;> rfl) | (simp [*, errW_none, errW_some] <;> rfl), by repeat (first | (with_reducible first | exact HB.out | apply below_alloc | apply pw_below_drewN | apply below_drew1) | exact HB.out)⟩
  · replace c6 := Bool.eq_false_iff.mpr c6
    subst c6
    have H1 : (some false) = some r := by rw [if_neg (show ¬ (false = true) by decide)] at H; exact H
    clear H
    have H := H1
    clear H1
    obtain rfl := Option.some.inj H
    go_enter Try.func8, Try.ntmps8
    go_wp2_with (first | ((with_reducible refine gate_callee (f := 33) rfl ?_); refine goesL_ (some 13) rfl rfl Try.func33 (by kernel_rfl) rfl #[] rfl (by (try simp only [List.map_toArray, List.map_cons, List.map_nil]); first | done | rfl | (simp only [List.length_drop, List.length_take]; rfl)) ?_; (with_reducible refine (plaitinglaw2_known.calls k  false _ A5.out).mono ?_); rintro e w21 ⟨rfl, hb⟩; refine ⟨_, rfl, ?_⟩; have n0_ := Aside0.mk (below_step (by repeat (first | (with_reducible first | exact HB.out | apply below_alloc | apply pw_below_drewN | apply below_drew1) | exact HB.out)) hb); clear HB; have HB := n0_; clear n0_; (try clear hb); (try clear hb2); (try clear hk); (try clear hi)))
    go_ret
    exact ⟨by first | rfl | (simp [errW_none, errW_some] <;> rfl) | (simp [*, errW_none, errW_some] <;> rfl), by repeat (first | (with_reducible first | exact HB.out | apply below_alloc | apply pw_below_drewN | apply below_drew1) | exact HB.out)⟩

/-- THE ONE PURE STATEMENT of plaitinglaw2_CrcThree: yours. -/
def plaitinglaw2_CrcThree.Pure : Prop := ∀ (a0 : Int) (a1 : Int) (a2 : Int) (a3 : Int), (Lit.int .i64 a0).wf = true → (Lit.int .i64 a1).wf = true → (Lit.int .i64 a2).wf = true → (Lit.int .i64 a3).wf = true → ∃ k, plaitinglaw2_CrcThree.f k a0 a1 a2 a3 = some true
theorem plaitinglaw2_CrcThree.walk (P : plaitinglaw2_CrcThree.Pure) (a0 : Int) (a1 : Int) (a2 : Int) (a3 : Int) (w : World) (w0 : (Lit.int .i64 a0).wf = true) (w1 : (Lit.int .i64 a1).wf = true) (w2 : (Lit.int .i64 a2).wf = true) (w3 : (Lit.int .i64 a3).wf = true) :
    Calls Try.prog 8 #[.int .i64 a0, .int .i64 a1, .int .i64 a2, .int .i64 a3] w fun e w' => e = .returned (.bool true) ∧ Below w.heap.size w w' := by
  obtain ⟨k, h⟩ := P a0 a1 a2 a3 w0 w1 w2 w3
  refine (plaitinglaw2_CrcThree.calls k a0 a1 a2 a3 true w h).mono ?_
  rintro e w' ⟨rfl, hd⟩
  exact ⟨rfl, hd⟩

end Go.Proofs.Ytnggjnhfdjjphaa.PTwo
