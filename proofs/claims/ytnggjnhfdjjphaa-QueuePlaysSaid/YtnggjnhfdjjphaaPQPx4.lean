-- Written by the session's own program (wip/gen).
import Derived.Test.YtnggjnhfdjjphaaPQPx0
import Derived.Test.YtnggjnhfdjjphaaPQPx1
import Derived.Test.YtnggjnhfdjjphaaPQPx2
import Derived.Test.YtnggjnhfdjjphaaPQPx3
namespace Go.Proofs.Ytnggjnhfdjjphaa.PQP
open Go.RowKit Go.Proofs.YtnggjnhfdjjphaaW.PrintWords Go.Proofs.YtnggjnhfdjjphaaW.PrintLast Go.Proofs.YtnggjnhfdjjphaaW.PrintMore
attribute [local go_sem] max2_int min2_int max_two min_two max_three min_three max_four min_four   -- for this text's walks alone
set_option linter.unusedVariables false
set_option linter.unusedSimpArgs false

attribute [local go_sem high] eqA33
/-! ### plaitinglaw14_known: function 23 -/
def plaitinglaw14_known.f  : Option (Bool) := (queue_Queue_Send.f 0 0 0 0 0 7).bind fun bt102 => (if bt102.1 = 0 then ((queue_Queue_Len.f bt102.2.1 bt102.2.2.1 bt102.2.2.2.1 bt102.2.2.2.2.1 bt102.2.2.2.2.2).bind fun bt108 => (if bt108.1 = 1 then ((queue_Queue_Next.f bt108.2.1 bt108.2.2.1 bt108.2.2.2.1 bt108.2.2.2.2.1 bt108.2.2.2.2.2).bind fun bt114 => (if (bt114.1 == 2 && (bt114.2.1 == 7)) = true then ((queue_Queue_Next.f bt114.2.2.1 bt114.2.2.2.1 bt114.2.2.2.2.1 bt114.2.2.2.2.2.1 bt114.2.2.2.2.2.2).bind fun bt121 => (some (bt121.1 == 1 && (bt121.2.1 == 0)))) else (some false))) else (some false))) else (some false))
set_option maxHeartbeats 8000000 in
set_option maxRecDepth 100000 in
theorem plaitinglaw14_known.calls  (r : Bool) (w : World) (h : plaitinglaw14_known.f  = some r) :
    Calls Try.prog 23 #[] w fun e w' => e = .returned (.bool r) ∧ Below w.heap.size w w' := by
  have hu27 := Try.underlying27
  have hu33 := Try.underlying33
  have HB := Aside0.mk (Below.refl w.heap.size w)
  have H : ((queue_Queue_Send.f 0 0 0 0 0 7).bind fun bt102 => (if bt102.1 = 0 then ((queue_Queue_Len.f bt102.2.1 bt102.2.2.1 bt102.2.2.2.1 bt102.2.2.2.2.1 bt102.2.2.2.2.2).bind fun bt108 => (if bt108.1 = 1 then ((queue_Queue_Next.f bt108.2.1 bt108.2.2.1 bt108.2.2.2.1 bt108.2.2.2.2.1 bt108.2.2.2.2.2).bind fun bt114 => (if (bt114.1 == 2 && (bt114.2.1 == 7)) = true then ((queue_Queue_Next.f bt114.2.2.1 bt114.2.2.2.1 bt114.2.2.2.2.1 bt114.2.2.2.2.2.1 bt114.2.2.2.2.2.2).bind fun bt121 => (some (bt121.1 == 1 && (bt121.2.1 == 0)))) else (some false))) else (some false))) else (some false))) = some r := h
  clear h
  replace H := Option.bind_eq_some_iff.mp H
  obtain ⟨⟨t102, t103, t104, t105, t106, t107⟩, A10, H⟩ := H
  replace H : (if t102 = 0 then ((queue_Queue_Len.f t103 t104 t105 t106 t107).bind fun bt108 => (if bt108.1 = 1 then ((queue_Queue_Next.f bt108.2.1 bt108.2.2.1 bt108.2.2.2.1 bt108.2.2.2.2.1 bt108.2.2.2.2.2).bind fun bt114 => (if (bt114.1 == 2 && (bt114.2.1 == 7)) = true then ((queue_Queue_Next.f bt114.2.2.1 bt114.2.2.2.1 bt114.2.2.2.2.1 bt114.2.2.2.2.2.1 bt114.2.2.2.2.2.2).bind fun bt121 => (some (bt121.1 == 1 && (bt121.2.1 == 0)))) else (some false))) else (some false))) else (some false)) = some r := H
  have A1 := Aside0.mk A10
  clear A10
  by_cases c2 : t102 = 0
  · rw [if_pos c2] at H
    have c2b0 : (t102 == 0) = true := beq_iff_eq.mpr c2
    have c2b1 : (t102 != 0) = false := bne_eq_false_iff_eq.mpr c2
    clear c2
    replace H := Option.bind_eq_some_iff.mp H
    obtain ⟨⟨t108, t109, t110, t111, t112, t113⟩, A30, H⟩ := H
    replace H : (if t108 = 1 then ((queue_Queue_Next.f t109 t110 t111 t112 t113).bind fun bt114 => (if (bt114.1 == 2 && (bt114.2.1 == 7)) = true then ((queue_Queue_Next.f bt114.2.2.1 bt114.2.2.2.1 bt114.2.2.2.2.1 bt114.2.2.2.2.2.1 bt114.2.2.2.2.2.2).bind fun bt121 => (some (bt121.1 == 1 && (bt121.2.1 == 0)))) else (some false))) else (some false)) = some r := H
    have A3 := Aside0.mk A30
    clear A30
    by_cases c4 : t108 = 1
    · rw [if_pos c4] at H
      have c4b0 : (t108 == 1) = true := beq_iff_eq.mpr c4
      have c4b1 : (t108 != 1) = false := bne_eq_false_iff_eq.mpr c4
      clear c4
      replace H := Option.bind_eq_some_iff.mp H
      obtain ⟨⟨t114, t115, t116, t117, t118, t119, t120⟩, A50, H⟩ := H
      replace H : (if (t114 == 2 && (t115 == 7)) = true then ((queue_Queue_Next.f t116 t117 t118 t119 t120).bind fun bt121 => (some (bt121.1 == 1 && (bt121.2.1 == 0)))) else (some false)) = some r := H
      have A5 := Aside0.mk A50
      clear A50
      by_cases c6 : (t114 == 2 && (t115 == 7)) = true
      · rw [if_pos c6] at H
        have c6b0 : (t114 == 2 && (t115 == 7)) = true := c6
        (try (have c6b1 : decide (t114 = 2 && (t115 == 7)) = true := by simpa using c6))
        (try (have c6b2 : (t114 == 2 && (t115 == 7)) = true := by simpa using c6))
        clear c6
        replace H := Option.bind_eq_some_iff.mp H
        obtain ⟨⟨t121, t122, t123, t124, t125, t126, t127⟩, A70, H⟩ := H
        replace H : (some (t121 == 1 && (t122 == 0))) = some r := H
        have A7 := Aside0.mk A70
        clear A70
        obtain rfl := Option.some.inj H
        go_enter Try.func23, Try.ntmps23
        go_wp2_with (first | ((with_reducible refine gate_dst (N := 4) rfl ?_); refine box_event ?hg (N := 4) ?hd (cs := #[.int .i64 0, .int .i64 0, .int .i64 0, .int .i64 0, .int .i64 0]) (t := 27) ?hr ?_; (case hd => rfl); (case hg => rfl); (case hr => first | (go_simp; done) | (go_simp; rfl)); intro gb101 hg w8 hbox hb; have n0_ := Aside0.mk (below_step (by repeat (first | (with_reducible first | exact HB.out | apply below_alloc | apply pw_below_drewN | apply below_drew1) | exact HB.out)) hb); have n1_ := Aside0.mk ((⟨hbox, by rw [hg]; exact (below_size (by repeat (first | (with_reducible first | exact HB.out | apply below_alloc | apply pw_below_drewN | apply below_drew1) | exact HB.out)))⟩ : IsS27 w w8 gb101 0 0 0 0 0)); have n2_ := Aside0.mk ((by rw [hg]; exact (below_size (by repeat (first | (with_reducible first | exact HB.out | apply below_alloc | apply pw_below_drewN | apply below_drew1) | exact HB.out))) : w.heap.size ≤ gb101)); have n3_ := Aside0.mk ((by rw [hg]; exact (below_size (by repeat (first | (with_reducible first | exact HB.out | apply below_alloc | apply pw_below_drewN | apply below_drew1) | exact HB.out))) : w.heap.size ≤ gb101)); clear HB; have HB := n0_; have HI101 := n1_; have GW101 := n2_; have GE101 := n3_; clear n0_ n1_ n2_ n3_; clear hb hbox hg) | ((with_reducible refine gate_callee (f := 24) rfl ?_); refine goesL_ (some 6) rfl rfl Try.func24 (by kernel_rfl) rfl #[.pointer (some ⟨gb101, 0, none⟩), .int .i64 7] rfl (by (try simp only [List.map_toArray, List.map_cons, List.map_nil]); first | done | rfl | (simp only [List.length_drop, List.length_take]; rfl)) ?_; (with_reducible refine (queue_Queue_Send.calls gb101 0 0 0 0 0 7 t102 t103 t104 t105 t106 t107 w _ ?side1 ?side2 A1.out).mono ?_); (case side1 => repeat (first | (with_reducible first | exact HI101.out | apply IsS27.alloc | apply IsS27.drewN | apply IsS27.drew | apply IsS27.set_0 | apply IsS27.set_1 | apply IsS27.set_2 | apply IsS27.set_3 | apply IsS27.set_4) | exact HI101.out)); (case side2 => repeat (first | (with_reducible first | exact HB.out | apply below_alloc | apply pw_below_drewN | apply below_drew1 | refine below_set ?_ (IsS27.ge HI101.out)) | exact HB.out)); rintro e w9 ⟨rfl, hi, hb, hk⟩; refine ⟨_, rfl, ?_⟩; have n0_ := Aside0.mk (hb); have n1_ := Aside0.mk (hi); clear HB; clear HI101; have HB := n0_; have HI101 := n1_; clear n0_ n1_; (try clear hb); (try clear hb2); (try clear hk); (try clear hi)) | (go_at_call 26; (with_reducible refine (queue_Queue_Len.calls gb101 t103 t104 t105 t106 t107 t108 t109 t110 t111 t112 t113 w _ ?side1 ?side2 A3.out).mono ?_); (case side1 => repeat (first | (with_reducible first | exact HI101.out | apply IsS27.alloc | apply IsS27.drewN | apply IsS27.drew | apply IsS27.set_0 | apply IsS27.set_1 | apply IsS27.set_2 | apply IsS27.set_3 | apply IsS27.set_4) | exact HI101.out)); (case side2 => repeat (first | (with_reducible first | exact HB.out | apply below_alloc | apply pw_below_drewN | apply below_drew1 | refine below_set ?_ (IsS27.ge HI101.out)) | exact HB.out)); rintro e w10 ⟨rfl, hi, hb, hk⟩; have n0_ := Aside0.mk (hb); have n1_ := Aside0.mk (hi); clear HB; clear HI101; have HB := n0_; have HI101 := n1_; clear n0_ n1_; (try clear hb); (try clear hb2); (try clear hk); (try clear hi)) | (go_at_call 27; (with_reducible refine (queue_Queue_Next.calls gb101 t109 t110 t111 t112 t113 t114 t115 t116 t117 t118 t119 t120 w _ ?side1 ?side2 A5.out).mono ?_); (case side1 => repeat (first | (with_reducible first | exact HI101.out | apply IsS27.alloc | apply IsS27.drewN | apply IsS27.drew | apply IsS27.set_0 | apply IsS27.set_1 | apply IsS27.set_2 | apply IsS27.set_3 | apply IsS27.set_4) | exact HI101.out)); (case side2 => repeat (first | (with_reducible first | exact HB.out | apply below_alloc | apply pw_below_drewN | apply below_drew1 | refine below_set ?_ (IsS27.ge HI101.out)) | exact HB.out)); rintro e w11 ⟨rfl, hi, hb, hk⟩; have n0_ := Aside0.mk (hb); have n1_ := Aside0.mk (hi); clear HB; clear HI101; have HB := n0_; have HI101 := n1_; clear n0_ n1_; (try clear hb); (try clear hb2); (try clear hk); (try clear hi)) | (go_at_call 27; (with_reducible refine (queue_Queue_Next.calls gb101 t116 t117 t118 t119 t120 t121 t122 t123 t124 t125 t126 t127 w _ ?side1 ?side2 A7.out).mono ?_); (case side1 => repeat (first | (with_reducible first | exact HI101.out | apply IsS27.alloc | apply IsS27.drewN | apply IsS27.drew | apply IsS27.set_0 | apply IsS27.set_1 | apply IsS27.set_2 | apply IsS27.set_3 | apply IsS27.set_4) | exact HI101.out)); (case side2 => repeat (first | (with_reducible first | exact HB.out | apply below_alloc | apply pw_below_drewN | apply below_drew1 | refine below_set ?_ (IsS27.ge HI101.out)) | exact HB.out)); rintro e w12 ⟨rfl, hi, hb, hk⟩; have n0_ := Aside0.mk (hb); have n1_ := Aside0.mk (hi); clear HB; clear HI101; have HB := n0_; have HI101 := n1_; clear n0_ n1_; (try clear hb); (try clear hb2); (try clear hk); (try clear hi)))
        go_ret
        exact ⟨by first | rfl | (simp [errW_none, errW_some] <;> rfl) | (simp [*, errW_none, errW_some] <;> rfl), by repeat (first | (with_reducible first | exact HB.out | apply below_alloc | apply pw_below_drewN | apply below_drew1 | refine below_set ?_ (IsS27.ge HI101.out)) | exact HB.out)⟩
      · rw [if_neg c6] at H
        have c6b0 : (t114 == 2 && (t115 == 7)) = false := by simpa using c6
        (try (have c6b1 : decide (t114 = 2 && (t115 == 7)) = false := by simpa using c6))
        (try (have c6b2 : (t114 == 2 && (t115 == 7)) = false := by simpa using c6))
        (try (have c6b3 : ¬ (t114 = 2 && (t115 == 7)) := by simpa using c6))
        clear c6
        obtain rfl := Option.some.inj H
        go_enter Try.func23, Try.ntmps23
        go_wp2_with (first | ((with_reducible refine gate_dst (N := 4) rfl ?_); refine box_event ?hg (N := 4) ?hd (cs := #[.int .i64 0, .int .i64 0, .int .i64 0, .int .i64 0, .int .i64 0]) (t := 27) ?hr ?_; (case hd => rfl); (case hg => rfl); (case hr => first | (go_simp; done) | (go_simp; rfl)); intro gb101 hg w13 hbox hb; have n0_ := Aside0.mk (below_step (by repeat (first | (with_reducible first | exact HB.out | apply below_alloc | apply pw_below_drewN | apply below_drew1) | exact HB.out)) hb); have n1_ := Aside0.mk ((⟨hbox, by rw [hg]; exact (below_size (by repeat (first | (with_reducible first | exact HB.out | apply below_alloc | apply pw_below_drewN | apply below_drew1) | exact HB.out)))⟩ : IsS27 w w13 gb101 0 0 0 0 0)); have n2_ := Aside0.mk ((by rw [hg]; exact (below_size (by repeat (first | (with_reducible first | exact HB.out | apply below_alloc | apply pw_below_drewN | apply below_drew1) | exact HB.out))) : w.heap.size ≤ gb101)); have n3_ := Aside0.mk ((by rw [hg]; exact (below_size (by repeat (first | (with_reducible first | exact HB.out | apply below_alloc | apply pw_below_drewN | apply below_drew1) | exact HB.out))) : w.heap.size ≤ gb101)); clear HB; have HB := n0_; have HI101 := n1_; have GW101 := n2_; have GE101 := n3_; clear n0_ n1_ n2_ n3_; clear hb hbox hg) | ((with_reducible refine gate_callee (f := 24) rfl ?_); refine goesL_ (some 6) rfl rfl Try.func24 (by kernel_rfl) rfl #[.pointer (some ⟨gb101, 0, none⟩), .int .i64 7] rfl (by (try simp only [List.map_toArray, List.map_cons, List.map_nil]); first | done | rfl | (simp only [List.length_drop, List.length_take]; rfl)) ?_; (with_reducible refine (queue_Queue_Send.calls gb101 0 0 0 0 0 7 t102 t103 t104 t105 t106 t107 w _ ?side1 ?side2 A1.out).mono ?_); (case side1 => repeat (first | (with_reducible first | exact HI101.out | apply IsS27.alloc | apply IsS27.drewN | apply IsS27.drew | apply IsS27.set_0 | apply IsS27.set_1 | apply IsS27.set_2 | apply IsS27.set_3 | apply IsS27.set_4) | exact HI101.out)); (case side2 => repeat (first | (with_reducible first | exact HB.out | apply below_alloc | apply pw_below_drewN | apply below_drew1 | refine below_set ?_ (IsS27.ge HI101.out)) | exact HB.out)); rintro e w14 ⟨rfl, hi, hb, hk⟩; refine ⟨_, rfl, ?_⟩; have n0_ := Aside0.mk (hb); have n1_ := Aside0.mk (hi); clear HB; clear HI101; have HB := n0_; have HI101 := n1_; clear n0_ n1_; (try clear hb); (try clear hb2); (try clear hk); (try clear hi)) | (go_at_call 26; (with_reducible refine (queue_Queue_Len.calls gb101 t103 t104 t105 t106 t107 t108 t109 t110 t111 t112 t113 w _ ?side1 ?side2 A3.out).mono ?_); (case side1 => repeat (first | (with_reducible first | exact HI101.out | apply IsS27.alloc | apply IsS27.drewN | apply IsS27.drew | apply IsS27.set_0 | apply IsS27.set_1 | apply IsS27.set_2 | apply IsS27.set_3 | apply IsS27.set_4) | exact HI101.out)); (case side2 => repeat (first | (with_reducible first | exact HB.out | apply below_alloc | apply pw_below_drewN | apply below_drew1 | refine below_set ?_ (IsS27.ge HI101.out)) | exact HB.out)); rintro e w15 ⟨rfl, hi, hb, hk⟩; have n0_ := Aside0.mk (hb); have n1_ := Aside0.mk (hi); clear HB; clear HI101; have HB := n0_; have HI101 := n1_; clear n0_ n1_; (try clear hb); (try clear hb2); (try clear hk); (try clear hi)) | (go_at_call 27; (with_reducible refine (queue_Queue_Next.calls gb101 t109 t110 t111 t112 t113 t114 t115 t116 t117 t118 t119 t120 w _ ?side1 ?side2 A5.out).mono ?_); (case side1 => repeat (first | (with_reducible first | exact HI101.out | apply IsS27.alloc | apply IsS27.drewN | apply IsS27.drew | apply IsS27.set_0 | apply IsS27.set_1 | apply IsS27.set_2 | apply IsS27.set_3 | apply IsS27.set_4) | exact HI101.out)); (case side2 => repeat (first | (with_reducible first | exact HB.out | apply below_alloc | apply pw_below_drewN | apply below_drew1 | refine below_set ?_ (IsS27.ge HI101.out)) | exact HB.out)); rintro e w16 ⟨rfl, hi, hb, hk⟩; have n0_ := Aside0.mk (hb); have n1_ := Aside0.mk (hi); clear HB; clear HI101; have HB := n0_; have HI101 := n1_; clear n0_ n1_; (try clear hb); (try clear hb2); (try clear hk); (try clear hi)))
        go_ret
        exact ⟨by first | rfl | (simp [errW_none, errW_some] <;> rfl) | (simp [*, errW_none, errW_some] <;> rfl), by repeat (first | (with_reducible first | exact HB.out | apply below_alloc | apply pw_below_drewN | apply below_drew1 | refine below_set ?_ (IsS27.ge HI101.out)) | exact HB.out)⟩
    · rw [if_neg c4] at H
      have c4b0 : (t108 == 1) = false := beq_eq_false_iff_ne.mpr c4
      have c4b1 : (t108 != 1) = true := bne_iff_ne.mpr c4
      obtain rfl := Option.some.inj H
      go_enter Try.func23, Try.ntmps23
      go_wp2_with (first | ((with_reducible refine gate_dst (N := 4) rfl ?_); refine box_event ?hg (N := 4) ?hd (cs := #[.int .i64 0, .int .i64 0, .int .i64 0, .int .i64 0, .int .i64 0]) (t := 27) ?hr ?_; (case hd => rfl); (case hg => rfl); (case hr => first | (go_simp; done) | (go_simp; rfl)); intro gb101 hg w17 hbox hb; have n0_ := Aside0.mk (below_step (by repeat (first | (with_reducible first | exact HB.out | apply below_alloc | apply pw_below_drewN | apply below_drew1) | exact HB.out)) hb); have n1_ := Aside0.mk ((⟨hbox, by rw [hg]; exact (below_size (by repeat (first | (with_reducible first | exact HB.out | apply below_alloc | apply pw_below_drewN | apply below_drew1) | exact HB.out)))⟩ : IsS27 w w17 gb101 0 0 0 0 0)); have n2_ := Aside0.mk ((by rw [hg]; exact (below_size (by repeat (first | (with_reducible first | exact HB.out | apply below_alloc | apply pw_below_drewN | apply below_drew1) | exact HB.out))) : w.heap.size ≤ gb101)); have n3_ := Aside0.mk ((by rw [hg]; exact (below_size (by repeat (first | (with_reducible first | exact HB.out | apply below_alloc | apply pw_below_drewN | apply below_drew1) | exact HB.out))) : w.heap.size ≤ gb101)); clear HB; have HB := n0_; have HI101 := n1_; have GW101 := n2_; have GE101 := n3_; clear n0_ n1_ n2_ n3_; clear hb hbox hg) | ((with_reducible refine gate_callee (f := 24) rfl ?_); refine goesL_ (some 6) rfl rfl Try.func24 (by kernel_rfl) rfl #[.pointer (some ⟨gb101, 0, none⟩), .int .i64 7] rfl (by (try simp only [List.map_toArray, List.map_cons, List.map_nil]); first | done | rfl | (simp only [List.length_drop, List.length_take]; rfl)) ?_; (with_reducible refine (queue_Queue_Send.calls gb101 0 0 0 0 0 7 t102 t103 t104 t105 t106 t107 w _ ?side1 ?side2 A1.out).mono ?_); (case side1 => repeat (first | (with_reducible first | exact HI101.out | apply IsS27.alloc | apply IsS27.drewN | apply IsS27.drew | apply IsS27.set_0 | apply IsS27.set_1 | apply IsS27.set_2 | apply IsS27.set_3 | apply IsS27.set_4) | exact HI101.out)); (case side2 => repeat (first | (with_reducible first | exact HB.out | apply below_alloc | apply pw_below_drewN | apply below_drew1 | refine below_set ?_ (IsS27.ge HI101.out)) | exact HB.out)); rintro e w18 ⟨rfl, hi, hb, hk⟩; refine ⟨_, rfl, ?_⟩; have n0_ := Aside0.mk (hb); have n1_ := Aside0.mk (hi); clear HB; clear HI101; have HB := n0_; have HI101 := n1_; clear n0_ n1_; (try clear hb); (try clear hb2); (try clear hk); (try clear hi)) | (go_at_call 26; (with_reducible refine (queue_Queue_Len.calls gb101 t103 t104 t105 t106 t107 t108 t109 t110 t111 t112 t113 w _ ?side1 ?side2 A3.out).mono ?_); (case side1 => repeat (first | (with_reducible first | exact HI101.out | apply IsS27.alloc | apply IsS27.drewN | apply IsS27.drew | apply IsS27.set_0 | apply IsS27.set_1 | apply IsS27.set_2 | apply IsS27.set_3 | apply IsS27.set_4) | exact HI101.out)); (case side2 => repeat (first | (with_reducible first | exact HB.out | apply below_alloc | apply pw_below_drewN | apply below_drew1 | refine below_set ?_ (IsS27.ge HI101.out)) | exact HB.out)); rintro e w19 ⟨rfl, hi, hb, hk⟩; have n0_ := Aside0.mk (hb); have n1_ := Aside0.mk (hi); clear HB; clear HI101; have HB := n0_; have HI101 := n1_; clear n0_ n1_; (try clear hb); (try clear hb2); (try clear hk); (try clear hi)))
      go_ret
      exact ⟨by first | rfl | (simp [errW_none, errW_some] <;> rfl) | (simp [*, errW_none, errW_some] <;> rfl), by repeat (first | (with_reducible first | exact HB.out | apply below_alloc | apply pw_below_drewN | apply below_drew1 | refine below_set ?_ (IsS27.ge HI101.out)) | exact HB.out)⟩
  · rw [if_neg c2] at H
    have c2b0 : (t102 == 0) = false := beq_eq_false_iff_ne.mpr c2
    have c2b1 : (t102 != 0) = true := bne_iff_ne.mpr c2
    obtain rfl := Option.some.inj H
    go_enter Try.func23, Try.ntmps23
    go_wp2_with (first | ((with_reducible refine gate_dst (N := 4) rfl ?_); refine box_event ?hg (N := 4) ?hd (cs := #[.int .i64 0, .int .i64 0, .int .i64 0, .int .i64 0, .int .i64 0]) (t := 27) ?hr ?_; (case hd => rfl); (case hg => rfl); (case hr => first | (go_simp; done) | (go_simp; rfl)); intro gb101 hg w20 hbox hb; have n0_ := Aside0.mk (below_step (by repeat (first | (with_reducible first | exact HB.out | apply below_alloc | apply pw_below_drewN | apply below_drew1) | exact HB.out)) hb); have n1_ := Aside0.mk ((⟨hbox, by rw [hg]; exact (below_size (by repeat (first | (with_reducible first | exact HB.out | apply below_alloc | apply pw_below_drewN | apply below_drew1) | exact HB.out)))⟩ : IsS27 w w20 gb101 0 0 0 0 0)); have n2_ := Aside0.mk ((by rw [hg]; exact (below_size (by repeat (first | (with_reducible first | exact HB.out | apply below_alloc | apply pw_below_drewN | apply below_drew1) | exact HB.out))) : w.heap.size ≤ gb101)); have n3_ := Aside0.mk ((by rw [hg]; exact (below_size (by repeat (first | (with_reducible first | exact HB.out | apply below_alloc | apply pw_below_drewN | apply below_drew1) | exact HB.out))) : w.heap.size ≤ gb101)); clear HB; have HB := n0_; have HI101 := n1_; have GW101 := n2_; have GE101 := n3_; clear n0_ n1_ n2_ n3_; clear hb hbox hg) | ((with_reducible refine gate_callee (f := 24) rfl ?_); refine goesL_ (some 6) rfl rfl Try.func24 (by kernel_rfl) rfl #[.pointer (some ⟨gb101, 0, none⟩), .int .i64 7] rfl (by (try simp only [List.map_toArray, List.map_cons, List.map_nil]); first | done | rfl | (simp only [List.length_drop, List.length_take]; rfl)) ?_; (with_reducible refine (queue_Queue_Send.calls gb101 0 0 0 0 0 7 t102 t103 t104 t105 t106 t107 w _ ?side1 ?side2 A1.out).mono ?_); (case side1 => repeat (first | (with_reducible first | exact HI101.out | apply IsS27.alloc | apply IsS27.drewN | apply IsS27.drew | apply IsS27.set_0 | apply IsS27.set_1 | apply IsS27.set_2 | apply IsS27.set_3 | apply IsS27.set_4) | exact HI101.out)); (case side2 => repeat (first | (with_reducible first | exact HB.out | apply below_alloc | apply pw_below_drewN | apply below_drew1 | refine below_set ?_ (IsS27.ge HI101.out)) | exact HB.out)); rintro e w21 ⟨rfl, hi, hb, hk⟩; refine ⟨_, rfl, ?_⟩; have n0_ := Aside0.mk (hb); have n1_ := Aside0.mk (hi); clear HB; clear HI101; have HB := n0_; have HI101 := n1_; clear n0_ n1_; (try clear hb); (try clear hb2); (try clear hk); (try clear hi)))
    go_ret
    exact ⟨by first | rfl | (simp [errW_none, errW_some] <;> rfl) | (simp [*, errW_none, errW_some] <;> rfl), by repeat (first | (with_reducible first | exact HB.out | apply below_alloc | apply pw_below_drewN | apply below_drew1 | refine below_set ?_ (IsS27.ge HI101.out)) | exact HB.out)⟩

/-! ### plaitinglaw14_within: function 25 -/
def plaitinglaw14_within.f (a0 : Int) (a1 : Int) : Option (Int) := if a1 = 0 then (none) else (if (Int.tmod a0 a1) < 0 then (some (wrap64 ((Int.tmod a0 a1) + a1))) else (some (Int.tmod a0 a1)))
set_option maxHeartbeats 8000000 in
set_option maxRecDepth 100000 in
theorem plaitinglaw14_within.calls (a0 : Int) (a1 : Int) (r : Int) (w : World) (h : plaitinglaw14_within.f a0 a1 = some r) :
    Calls Try.prog 25 #[.int .i64 a0, .int .i64 a1] w fun e w' => e = .returned (.int .i64 r) ∧ Drawn0 w w' := by
  have H : (if a1 = 0 then (none) else (if (Int.tmod a0 a1) < 0 then (some (wrap64 ((Int.tmod a0 a1) + a1))) else (some (Int.tmod a0 a1)))) = some r := h
  clear h
  by_cases c3 : a1 = 0
  · rw [if_pos c3] at H
    exact absurd H (by simp)
  · rw [if_neg c3] at H
    have c3b0 : (a1 == 0) = false := beq_eq_false_iff_ne.mpr c3
    have c3b1 : (a1 != 0) = true := bne_iff_ne.mpr c3
    by_cases c4 : (Int.tmod a0 a1) < 0
    · rw [if_pos c4] at H
      have c4b0 : decide ((Int.tmod a0 a1) < 0) = true := decide_eq_true c4
      clear c4
      obtain rfl := Option.some.inj H
      go_enter Try.func25, Try.ntmps25
      go_wp2
      go_ret
      exact ⟨by first | rfl | (simp; done) | (simp [*]; done), by repeat (first | exact Drawn0.refl _ | apply Drawn0.step)⟩
    · rw [if_neg c4] at H
      have c4b0 : decide ((Int.tmod a0 a1) < 0) = false := decide_eq_false c4
      clear c4
      obtain rfl := Option.some.inj H
      go_enter Try.func25, Try.ntmps25
      go_wp2
      go_ret
      exact ⟨by first | rfl | (simp; done) | (simp [*]; done), by repeat (first | exact Drawn0.refl _ | apply Drawn0.step)⟩

-- NOT PRINTED: function 28 (plaitingref14_Queue_Send)

-- NOT PRINTED: function 29 (plaitingref14_Queue_Next)

/-! ### queue_Queue_Clear: function 30 -/
def queue_Queue_Clear.f (s0_0 : Int) (s0_1 : Int) (s0_2 : Int) (s0_3 : Int) (s0_4 : Int) : Option (Int × Int × Int × Int × Int) := some (0, 0, 0, 0, 0)
set_option maxHeartbeats 8000000 in
set_option maxRecDepth 100000 in
theorem queue_Queue_Clear.calls (g : Nat) (s0_0 : Int) (s0_1 : Int) (s0_2 : Int) (s0_3 : Int) (s0_4 : Int) (r1 : Int) (r2 : Int) (r3 : Int) (r4 : Int) (r5 : Int) (w0 w : World) (hI : IsS27 w0 w g s0_0 s0_1 s0_2 s0_3 s0_4) (hB : Below w0.heap.size w0 w) (h : queue_Queue_Clear.f s0_0 s0_1 s0_2 s0_3 s0_4 = some (r1, r2, r3, r4, r5)) :
    Calls Try.prog 30 #[.pointer (some ⟨g, 0, none⟩)] w fun e w' => e = .returned (.tuple #[]) ∧ IsS27 w0 w' g r1 r2 r3 r4 r5 ∧ Below w0.heap.size w0 w' ∧ KeepBut w w' g none := by
  have hu27 := Try.underlying27
  have HI0 := Aside0.mk hI
  have HK := Aside0.mk (KeepBut.refl w g none)
  have HL := Aside0.mk hB.size
  clear hI
  have HW0 := Aside0.mk hB.size
  have HB := Aside0.mk hB
  clear hB
  have H : (some (0, 0, 0, 0, 0)) = some (r1, r2, r3, r4, r5) := h
  clear h
  simp only [Option.some.injEq, Prod.mk.injEq] at H
  obtain ⟨rfl, rfl, rfl, rfl, rfl⟩ := H
  obtain ⟨HGz2, hgz2⟩ := HI0.out
  have hcz2_0 := cellS27_0 HGz2
  have hcz2_1 := cellS27_1 HGz2
  have hcz2_2 := cellS27_2 HGz2
  have hcz2_3 := cellS27_3 HGz2
  have hcz2_4 := cellS27_4 HGz2
  have hfz2_0 := blk_frozen HGz2 0
  have hfz2_1 := blk_frozen HGz2 1
  have hfz2_2 := blk_frozen HGz2 2
  have hfz2_3 := blk_frozen HGz2 3
  have hfz2_4 := blk_frozen HGz2 4
  clear HGz2 hgz2
  go_enter Try.func30, Try.ntmps30
  go_wp2
  first | go_end0 | ((try simp only [Exit.inBlock, Exit.then]); refine bodyPost_ret (results_none rfl _ _ _) rfl ?_)
  exact ⟨by first | rfl | (simp [errW_none, errW_some] <;> rfl) | (simp [*, errW_none, errW_some] <;> rfl), by repeat (first | (with_reducible first | exact HI0.out | apply IsS27.alloc | apply IsS27.drewN | apply IsS27.drew | apply IsS27.set_0 | apply IsS27.set_1 | apply IsS27.set_2 | apply IsS27.set_3 | apply IsS27.set_4) | exact HI0.out), by repeat (first | (with_reducible first | exact HB.out | apply below_alloc | apply pw_below_drewN | apply below_drew1 | refine below_set ?_ (IsS27.ge HI0.out)) | exact HB.out), by repeat (first | (with_reducible first | exact HK.out | apply KeepBut.set_ | apply keep_drewN | apply keep_drew | apply keep_alloc) | exact HK.out)⟩

-- NOT PRINTED: function 31 (plaitingref14_Queue_Clear)

/-- A state of type 38 at block g of W; what its slices lead to came in by w0. -/
def IsS38 (w0 W : World) (g : Nat) (f0 : List Int) : Prop := ∃ A0 c0, W.heap[g]? = some (.cells #[.slice A0 f0.length c0] 38 (0, 0)) ∧ w0.heap.size ≤ g ∧ Kd.C (Kd.int .i64) w0 A0 f0.length f0
theorem IsS38.grown {w0 W : World} {g : Nat} {f0 : List Int} {W1 : World} {row : Option Nat} (h : IsS38 w0 W g f0) (hw : W.grownBy W1 row) (hne : some g ≠ row) : IsS38 w0 W1 g f0 := by
  obtain ⟨A0, c0, hb, hg, hr0⟩ := h
  exact ⟨A0, c0, blk_grown hb hw hne, hg, hr0⟩
theorem IsS38.own_neN {w0 W : World} {g : Nat} {f0 : List Int} {α : Type} {d : Kd α} {e : Nat} {base : Nat} {ok : Nat → Prop} {v : Value} {xs : List α} (h : IsS38 w0 W g f0) (ho : Kd.N d e W base ok v xs) (ht : e ≠ 38) : some g ≠ v.ownBlock := by
  obtain ⟨A0, c0, hb, hg, hr0⟩ := h
  exact Kd.N_ne ho hb ht
theorem IsS38.fresh {w0 W : World} {g : Nat} {f0 : List Int} (h : IsS38 w0 W g f0) : ∀ k, W.heap.size ≤ k → k ≠ g := by
  obtain ⟨A0, c0, hb, hg, hr0⟩ := h
  exact Kd.freshB hb
theorem IsS38.kept {w0 W : World} {g : Nat} {f0 : List Int} {W1 : World} {S : Nat → Prop} (h : IsS38 w0 W g f0) (hk : Kept W W1 S) (hne : ¬ S g) : IsS38 w0 W1 g f0 := by
  obtain ⟨A0, c0, hb, hg, hr0⟩ := h
  exact ⟨A0, c0, blk_kept hb hk hne, hg, hr0⟩
theorem IsS38.below {w0 W : World} {g : Nat} {f0 : List Int} {W1 : World} (h : IsS38 w0 W g f0) (hw : Below W.heap.size W W1) : IsS38 w0 W1 g f0 := h.grown (grown_of_below hw none) (by simp)
theorem IsS38.alloc {w0 W : World} {g : Nat} {f0 : List Int} (h : IsS38 w0 W g f0) (o : Obj) : IsS38 w0 (W.alloc o) g f0 := h.below (below_alloc (Below.refl _ _) o)
theorem IsS38.drewN {w0 W : World} {g : Nat} {f0 : List Int} (h : IsS38 w0 W g f0) (m : Nat) : IsS38 w0 (W.drewN m) g f0 := h
theorem IsS38.drew {w0 W : World} {g : Nat} {f0 : List Int} (h : IsS38 w0 W g f0) : IsS38 w0 W.drew g f0 := h
theorem IsS38.at_ {w0 W : World} {g : Nat} {f0 : List Int} {w' : World} {m : Nat} (hq : W.drewN m = w') (h : IsS38 w0 W g f0) : IsS38 w0 w' g f0 := by subst hq; exact IsS38.drewN h m
theorem IsS38.apart {w0 W : World} {g : Nat} {f0 : List Int} {α : Type} {d : Kd α} {e : Nat} {base : Nat} {ok : Nat → Prop} {v : Value} {xs : List α} (h : IsS38 w0 W g f0) (ho : d.R e W base ok v xs) (ht : ∀ q, q ∈ e :: d.E → q ≠ 38) : d.R e W base (fun k => ok k ∧ k ≠ g) v xs := by
  obtain ⟨A0, c0, hb, hg, hr0⟩ := h
  exact Kd.R_types ho hb ht
theorem IsS38.own_ne {w0 W : World} {g : Nat} {f0 : List Int} {α : Type} {d : Kd α} {e : Nat} {base : Nat} {ok : Nat → Prop} {v : Value} {xs : List α} (h : IsS38 w0 W g f0) (ho : d.R e W base ok v xs) (ht : e ≠ 38) : some g ≠ v.ownBlock := by
  obtain ⟨A0, c0, hb, hg, hr0⟩ := h
  exact Kd.R_ne ho hb ht
theorem IsS38.apartQ {w0 W : World} {g : Nat} {f0 : List Int} {α : Type} {d : Kd α} {e : Nat} {base : Nat} {ok : Nat → Prop} {v : Value} {xs : List α} (h : IsS38 w0 W g f0) (ho : d.Q e W base ok v xs) (ht : ∀ q, q ∈ e :: d.E → q ≠ 38) : d.Q e W base (fun k => ok k ∧ k ≠ g) v xs := by
  obtain ⟨A0, c0, hb, hg, hr0⟩ := h
  exact Kd.Q_types ho hb ht
theorem IsS38.own_neQ {w0 W : World} {g : Nat} {f0 : List Int} {α : Type} {d : Kd α} {e : Nat} {base : Nat} {ok : Nat → Prop} {v : Value} {xs : List α} (h : IsS38 w0 W g f0) (ho : d.Q e W base ok v xs) (ht : e ≠ 38) : some g ≠ v.ownBlock := by
  obtain ⟨A0, c0, hb, hg, hr0⟩ := h
  exact Kd.Q_ne ho hb ht
theorem IsS38.apartS {w0 W : World} {g : Nat} {f0 : List Int} {α : Type} {d : Kd α} {e : Nat} {base : Nat} {ok : Nat → Prop} {v : Value} {xs : List α} (h : IsS38 w0 W g f0) (ho : d.S e W base ok v xs) (ht : ∀ q, q ∈ e :: d.E → q ≠ 38) : d.S e W base (fun k => ok k ∧ k ≠ g) v xs := by
  obtain ⟨A0, c0, hb, hg, hr0⟩ := h
  exact Kd.S_types ho hb ht
theorem IsS38.own_neS {w0 W : World} {g : Nat} {f0 : List Int} {α : Type} {d : Kd α} {e : Nat} {base : Nat} {ok : Nat → Prop} {v : Value} {xs : List α} (h : IsS38 w0 W g f0) (ho : d.S e W base ok v xs) (ht : e ≠ 38) : some g ≠ v.ownBlock := by
  obtain ⟨A0, c0, hb, hg, hr0⟩ := h
  exact Kd.S_ne ho hb ht
theorem IsS38.lt {w0 W : World} {g : Nat} {f0 : List Int} (h : IsS38 w0 W g f0) : g < W.heap.size := by
  obtain ⟨A0, c0, hb, hg, hr0⟩ := h
  exact blk_lt hb
theorem IsS38.ge {w0 W : World} {g : Nat} {f0 : List Int} (h : IsS38 w0 W g f0) : w0.heap.size ≤ g := by
  obtain ⟨A0, c0, hb, hg, hr0⟩ := h
  exact hg
theorem IsS38.ne_blk {w0 W : World} {g : Nat} {f0 : List Int} {a : Nat} {cs : Array Value} {t : TypeId} {fr : Nat × Nat} (h : IsS38 w0 W g f0) (hb2 : W.heap[a]? = some (.cells cs t fr)) (ht : t ≠ 38) : g ≠ a := by
  obtain ⟨A0, c0, hb, hg, hr0⟩ := h
  rintro rfl
  rw [hb] at hb2
  injection hb2 with hb2
  injection hb2 with _ ht2
  exact ht ht2.symm
theorem IsS38.far {w0 W : World} {g : Nat} {f0 : List Int} {p : Addr} (h : IsS38 w0 W g f0) (hne : g ≠ p.block) (u : Value) : IsS38 w0 (W.setCell p u) g f0 := by
  obtain ⟨A0, c0, hb, hg, hr0⟩ := h
  exact ⟨A0, c0, blk_far hb hne u, hg, hr0⟩
theorem cellS38_0 {W : World} {g : Nat} {A0 : Option Addr} {c0 : Nat} {f0 : List Int} (h : W.heap[g]? = some (.cells #[.slice A0 f0.length c0] 38 (0, 0))) : W.cell? ⟨g, 0, none⟩ = some (.slice A0 f0.length c0) := (blk_cell h 0).trans rfl
theorem IsS38.new (w0 W : World) (A0 : Option Addr) (c0 : Nat) (f0 : List Int) (hB : Below w0.heap.size w0 W) (hr0 : Kd.C (Kd.int .i64) w0 A0 f0.length f0) : IsS38 w0 (W.alloc (.cells #[.slice A0 f0.length c0] 38)) W.heap.size f0 := ⟨A0, c0, by simpa using heap_alloc_new W _, hB.size, hr0⟩

/-! ### plaitingref14_Queue_Len: function 32 -/
def plaitingref14_Queue_Len.f (s0_0 : List Int) : Option (Int) := some (s0_0.length : Int)
set_option maxHeartbeats 8000000 in
set_option maxRecDepth 100000 in
theorem plaitingref14_Queue_Len.calls (g : Nat) (s0_0 : List Int) (r : Int) (w0 w : World) (hI : IsS38 w0 w g s0_0) (hB : Below w0.heap.size w0 w) (h : plaitingref14_Queue_Len.f s0_0 = some r) :
    Calls Try.prog 32 #[.pointer (some ⟨g, 0, none⟩)] w fun e w' => e = .returned (.int .i64 r) ∧ IsS38 w0 w' g s0_0 ∧ Below w0.heap.size w0 w' ∧ KeepBut w w' g none := by
  have HI0 := Aside0.mk hI
  have HK := Aside0.mk (KeepBut.refl w g none)
  have HL := Aside0.mk hB.size
  clear hI
  have HW0 := Aside0.mk hB.size
  have HB := Aside0.mk hB
  clear hB
  have H : (some (s0_0.length : Int)) = some r := h
  clear h
  obtain rfl := Option.some.inj H
  obtain ⟨ASz2_0, cSz2_0, HGz2, hgz2, HSz2_0⟩ := HI0.out
  have hcz2_0 := cellS38_0 HGz2
  clear HGz2 hgz2
  go_enter Try.func32, Try.ntmps32
  go_wp2
  go_ret
  exact ⟨by first | rfl | (simp [errW_none, errW_some] <;> rfl) | (simp [*, errW_none, errW_some] <;> rfl), by repeat (first | (with_reducible first | exact HI0.out | apply IsS38.alloc | apply IsS38.drewN | apply IsS38.drew) | exact HI0.out), by repeat (first | (with_reducible first | exact HB.out | apply below_alloc | apply pw_below_drewN | apply below_drew1 | refine below_set ?_ (IsS38.ge HI0.out)) | exact HB.out), by repeat (first | (with_reducible first | exact HK.out | apply KeepBut.set_ | apply keep_drewN | apply keep_drew | apply keep_alloc) | exact HK.out)⟩

end Go.Proofs.Ytnggjnhfdjjphaa.PQP
