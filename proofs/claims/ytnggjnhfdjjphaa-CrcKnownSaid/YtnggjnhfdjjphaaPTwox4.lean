-- Written by the session's own program (wip/gen).
import Derived.Test.YtnggjnhfdjjphaaPTwox0
import Derived.Test.YtnggjnhfdjjphaaPTwox1
import Derived.Test.YtnggjnhfdjjphaaPTwox3
namespace Go.Proofs.Ytnggjnhfdjjphaa.PTwo
open Go.RowKit Go.Proofs.YtnggjnhfdjjphaaW.PrintWords Go.Proofs.YtnggjnhfdjjphaaW.PrintLast Go.Proofs.YtnggjnhfdjjphaaW.PrintMore
attribute [local go_sem] max2_int min2_int max_two min_two max_three min_three max_four min_four   -- for this text's walks alone
set_option linter.unusedVariables false
set_option linter.unusedSimpArgs false

/-! ### plaitinglaw2_CrcKnown: function 7 -/
def plaitinglaw2_CrcKnown.f (k : Nat) (a0 : Int) : Option (Bool) := (plaitinglaw2_known.f k).bind fun t109 => (if t109 = true then ((some (([(⟨#[]⟩ : ByteArray), (⟨#[48]⟩ : ByteArray), (⟨#[49]⟩ : ByteArray), (⟨#[49, 49, 49, 49, 49, 49, 49, 49, 49, 49, 49, 49, 49, 49, 49, 49, 49]⟩ : ByteArray), (⟨#[48, 48, 49, 49, 48, 48, 48, 49, 48, 48, 49, 49, 48, 48, 49, 48, 48, 48, 49, 49, 48, 48, 49, 49, 48, 48, 49, 49, 48, 49, 48, 48, 48, 48, 49, 49, 48, 49, 48, 49, 48, 48, 49, 49, 48, 49, 49, 48, 48, 48, 49, 49, 48, 49, 49, 49, 48, 48, 49, 49, 49, 48, 48, 48, 48, 48, 49, 49, 49, 48, 48, 49]⟩ : ByteArray)] : List ByteArray) : List ByteArray)).bind fun y110 => ((some (([65535, 61407, 65534, 4129, 10673] : List Int) : List Int)).bind fun y113 => ((plaitinglaw2_within.f a0 5).bind fun t116 => (if 0 ≤ t116 then (if t116 < (y110.length : Int) then ((crc_Sum.f (rdOf ByteArray.empty y110 t116)).bind fun t118 => (if t116 < (y113.length : Int) then (some (t118 == (rd y113 t116))) else (none))) else (none)) else (none))))) else (some false))
theorem plaitinglaw2_CrcKnown.mono : ∀ a0 k, LeO (plaitinglaw2_CrcKnown.f k a0) (plaitinglaw2_CrcKnown.f (k + 1) a0) := by
  intro a0 k
  unfold plaitinglaw2_CrcKnown.f
  repeat' first
      | (with_reducible exact plaitinglaw2_known.mono _)
      | (with_reducible exact LeO.refl _)
      | (with_reducible exact LeO.none _)
      | (with_reducible refine LeO.ite ?_ ?_)
      | (with_reducible refine LeO.bind ?_ (fun _ => ?_))
      | exact plaitinglaw2_known.mono _
      | exact LeO.none _
      | refine LeO.ite ?_ ?_
      | refine LeO.bind ?_ (fun _ => ?_)
def plaitinglaw2_CrcKnown.T6 : Bool × List (List Nat × List Nat) := (true, [([], []), ([], []), ([0, 1], [0, 1]), ([2], [2]), ([3], [3]), ([], []), ([], []), ([5, 6], [5, 6]), ([7], [7]), ([4, 8], [4, 8]), ([9, 4, 0, 1, 2, 3, 4, 5, 6, 7, 8, 9], [9])])
def plaitinglaw2_CrcKnown.B6 : List Nat := [0, 0, 3, 7, 15, 0, 0, 96, 224, 511, 1023]
theorem plaitinglaw2_CrcKnown.tab6 : rtab .any (opsOf Try.f7 6) = plaitinglaw2_CrcKnown.T6 := by kernel_rfl
theorem plaitinglaw2_CrcKnown.bits6 : waitsOk plaitinglaw2_CrcKnown.T6.2 plaitinglaw2_CrcKnown.B6 = true := by kernel_rfl
set_option maxHeartbeats 8000000 in
set_option maxRecDepth 100000 in
theorem plaitinglaw2_CrcKnown.calls (k : Nat) (a0 : Int) (r : Bool) (w : World) (h : plaitinglaw2_CrcKnown.f k a0 = some r) :
    Calls Try.prog 7 #[.int .i64 a0] w fun e w' => e = .returned (.bool r) ∧ Below w.heap.size w w' := by
  have HB := Aside0.mk (Below.refl w.heap.size w)
  have H : ((plaitinglaw2_known.f k).bind fun t109 => (if t109 = true then ((some (([(⟨#[]⟩ : ByteArray), (⟨#[48]⟩ : ByteArray), (⟨#[49]⟩ : ByteArray), (⟨#[49, 49, 49, 49, 49, 49, 49, 49, 49, 49, 49, 49, 49, 49, 49, 49, 49]⟩ : ByteArray), (⟨#[48, 48, 49, 49, 48, 48, 48, 49, 48, 48, 49, 49, 48, 48, 49, 48, 48, 48, 49, 49, 48, 48, 49, 49, 48, 48, 49, 49, 48, 49, 48, 48, 48, 48, 49, 49, 48, 49, 48, 49, 48, 48, 49, 49, 48, 49, 49, 48, 48, 48, 49, 49, 48, 49, 49, 49, 48, 48, 49, 49, 49, 48, 48, 48, 48, 48, 49, 49, 49, 48, 48, 49]⟩ : ByteArray)] : List ByteArray) : List ByteArray)).bind fun y110 => ((some (([65535, 61407, 65534, 4129, 10673] : List Int) : List Int)).bind fun y113 => ((plaitinglaw2_within.f a0 5).bind fun t116 => (if 0 ≤ t116 then (if t116 < (y110.length : Int) then ((crc_Sum.f (rdOf ByteArray.empty y110 t116)).bind fun t118 => (if t116 < (y113.length : Int) then (some (t118 == (rd y113 t116))) else (none))) else (none)) else (none))))) else (some false))) = some r := h
  clear h
  replace H := Option.bind_eq_some_iff.mp H
  obtain ⟨t109, A20, H⟩ := H
  replace H : (if t109 = true then ((some (([(⟨#[]⟩ : ByteArray), (⟨#[48]⟩ : ByteArray), (⟨#[49]⟩ : ByteArray), (⟨#[49, 49, 49, 49, 49, 49, 49, 49, 49, 49, 49, 49, 49, 49, 49, 49, 49]⟩ : ByteArray), (⟨#[48, 48, 49, 49, 48, 48, 48, 49, 48, 48, 49, 49, 48, 48, 49, 48, 48, 48, 49, 49, 48, 48, 49, 49, 48, 48, 49, 49, 48, 49, 48, 48, 48, 48, 49, 49, 48, 49, 48, 49, 48, 48, 49, 49, 48, 49, 49, 48, 48, 48, 49, 49, 48, 49, 49, 49, 48, 48, 49, 49, 49, 48, 48, 48, 48, 48, 49, 49, 49, 48, 48, 49]⟩ : ByteArray)] : List ByteArray) : List ByteArray)).bind fun y110 => ((some (([65535, 61407, 65534, 4129, 10673] : List Int) : List Int)).bind fun y113 => ((plaitinglaw2_within.f a0 5).bind fun t116 => (if 0 ≤ t116 then (if t116 < (y110.length : Int) then ((crc_Sum.f (rdOf ByteArray.empty y110 t116)).bind fun t118 => (if t116 < (y113.length : Int) then (some (t118 == (rd y113 t116))) else (none))) else (none)) else (none))))) else (some false)) = some r := H
  have A2 := Aside0.mk A20
  clear A20
  by_cases c3 : t109 = true
  · subst c3
    have H1 : ((some (([(⟨#[]⟩ : ByteArray), (⟨#[48]⟩ : ByteArray), (⟨#[49]⟩ : ByteArray), (⟨#[49, 49, 49, 49, 49, 49, 49, 49, 49, 49, 49, 49, 49, 49, 49, 49, 49]⟩ : ByteArray), (⟨#[48, 48, 49, 49, 48, 48, 48, 49, 48, 48, 49, 49, 48, 48, 49, 48, 48, 48, 49, 49, 48, 48, 49, 49, 48, 48, 49, 49, 48, 49, 48, 48, 48, 48, 49, 49, 48, 49, 48, 49, 48, 48, 49, 49, 48, 49, 49, 48, 48, 48, 49, 49, 48, 49, 49, 49, 48, 48, 49, 49, 49, 48, 48, 48, 48, 48, 49, 49, 49, 48, 48, 49]⟩ : ByteArray)] : List ByteArray) : List ByteArray)).bind fun y110 => ((some (([65535, 61407, 65534, 4129, 10673] : List Int) : List Int)).bind fun y113 => ((plaitinglaw2_within.f a0 5).bind fun t116 => (if 0 ≤ t116 then (if t116 < (y110.length : Int) then ((crc_Sum.f (rdOf ByteArray.empty y110 t116)).bind fun t118 => (if t116 < (y113.length : Int) then (some (t118 == (rd y113 t116))) else (none))) else (none)) else (none))))) = some r := by rw [if_pos rfl] at H; exact H
    clear H
    have H := H1
    clear H1
    obtain ⟨y110, hy110⟩ : ∃ y_ : List ByteArray, y_ = (([(⟨#[]⟩ : ByteArray), (⟨#[48]⟩ : ByteArray), (⟨#[49]⟩ : ByteArray), (⟨#[49, 49, 49, 49, 49, 49, 49, 49, 49, 49, 49, 49, 49, 49, 49, 49, 49]⟩ : ByteArray), (⟨#[48, 48, 49, 49, 48, 48, 48, 49, 48, 48, 49, 49, 48, 48, 49, 48, 48, 48, 49, 49, 48, 48, 49, 49, 48, 48, 49, 49, 48, 49, 48, 48, 48, 48, 49, 49, 48, 49, 48, 49, 48, 48, 49, 49, 48, 49, 49, 48, 48, 48, 49, 49, 48, 49, 49, 49, 48, 48, 49, 49, 49, 48, 48, 48, 48, 48, 49, 49, 49, 48, 48, 49]⟩ : ByteArray)] : List ByteArray)) := ⟨_, rfl⟩
    replace H : ((some (([65535, 61407, 65534, 4129, 10673] : List Int) : List Int)).bind fun y113 => ((plaitinglaw2_within.f a0 5).bind fun t116 => (if 0 ≤ t116 then (if t116 < (y110.length : Int) then ((crc_Sum.f (rdOf ByteArray.empty y110 t116)).bind fun t118 => (if t116 < (y113.length : Int) then (some (t118 == (rd y113 t116))) else (none))) else (none)) else (none)))) = some r := by first | (rw [hy110]; with_reducible exact H) | (have H2_ := (Option.bind_some _ _).symm.trans H; rw [hy110]; with_reducible exact H2_) | (have H2_ := (Option.bind_some _ _).symm.trans H; with_reducible exact H2_) | with_reducible exact H | (rw [hy110]; exact H) | exact H
    have Ny110 := Aside0.mk hy110
    clear hy110
    obtain ⟨y113, hy113⟩ : ∃ y_ : List Int, y_ = (([65535, 61407, 65534, 4129, 10673] : List Int)) := ⟨_, rfl⟩
    replace H : ((plaitinglaw2_within.f a0 5).bind fun t116 => (if 0 ≤ t116 then (if t116 < (y110.length : Int) then ((crc_Sum.f (rdOf ByteArray.empty y110 t116)).bind fun t118 => (if t116 < (y113.length : Int) then (some (t118 == (rd y113 t116))) else (none))) else (none)) else (none))) = some r := by first | (rw [hy113]; with_reducible exact H) | (have H2_ := (Option.bind_some _ _).symm.trans H; rw [hy113]; with_reducible exact H2_) | (have H2_ := (Option.bind_some _ _).symm.trans H; with_reducible exact H2_) | with_reducible exact H | (rw [hy113]; exact H) | exact H
    have Ny113 := Aside0.mk hy113
    clear hy113
    replace H := Option.bind_eq_some_iff.mp H
    obtain ⟨t116, A40, H⟩ := H
    replace H : (if 0 ≤ t116 then (if t116 < (y110.length : Int) then ((crc_Sum.f (rdOf ByteArray.empty y110 t116)).bind fun t118 => (if t116 < (y113.length : Int) then (some (t118 == (rd y113 t116))) else (none))) else (none)) else (none)) = some r := H
    have A4 := Aside0.mk A40
    clear A40
    by_cases c5 : 0 ≤ t116
    · rw [if_pos c5] at H
      have c5b0 : decide (0 ≤ t116) = true := decide_eq_true c5
      clear c5
      by_cases c6 : t116 < (y110.length : Int)
      · rw [if_pos c6] at H
        have c6b0 : decide (t116 < (y110.length : Int)) = true := decide_eq_true c6
        clear c6
        replace H := Option.bind_eq_some_iff.mp H
        obtain ⟨t118, A70, H⟩ := H
        replace H : (if t116 < (y113.length : Int) then (some (t118 == (rd y113 t116))) else (none)) = some r := H
        have A7 := Aside0.mk A70
        clear A70
        by_cases c8 : t116 < (y113.length : Int)
        · rw [if_pos c8] at H
          have c8b0 : decide (t116 < (y113.length : Int)) = true := decide_eq_true c8
          clear c8
          obtain rfl := Option.some.inj H
          go_enter Try.func7, Try.ntmps7
          try go_wp2_with (first | ((with_reducible refine gate_callee (f := 33) rfl ?_); refine goesL_ (some 6) rfl rfl Try.func33 (by kernel_rfl) rfl #[] rfl (by (try simp only [List.map_toArray, List.map_cons, List.map_nil]); first | done | rfl | (simp only [List.length_drop, List.length_take]; rfl)) ?_; (with_reducible refine (plaitinglaw2_known.calls k  true _ A2.out).mono ?_); rintro e w9 ⟨rfl, hb⟩; refine ⟨_, rfl, ?_⟩; have n0_ := Aside0.mk (below_step (by repeat (first | (with_reducible first | exact HB.out | apply below_alloc | apply pw_below_drewN | apply below_drew1) | exact HB.out)) hb); clear HB; have HB := n0_; clear n0_; (try clear hb); (try clear hb2); (try clear hk); (try clear hi)) | ((with_reducible refine gate_dst (N := 8) rfl ?_); refine Kd.R_lit Kd.string _ 9 ?hg (N := 8) ?hd (xs := ([(⟨#[]⟩ : ByteArray), (⟨#[48]⟩ : ByteArray), (⟨#[49]⟩ : ByteArray), (⟨#[49, 49, 49, 49, 49, 49, 49, 49, 49, 49, 49, 49, 49, 49, 49, 49, 49]⟩ : ByteArray), (⟨#[48, 48, 49, 49, 48, 48, 48, 49, 48, 48, 49, 49, 48, 48, 49, 48, 48, 48, 49, 49, 48, 48, 49, 49, 48, 48, 49, 49, 48, 49, 48, 48, 48, 48, 49, 49, 48, 49, 48, 49, 48, 48, 49, 49, 48, 49, 49, 48, 48, 48, 49, 49, 48, 49, 49, 49, 48, 48, 49, 49, 49, 48, 48, 48, 48, 48, 49, 49, 49, 48, 48, 49]⟩ : ByteArray)] : List ByteArray)) (inner := [.string (⟨#[]⟩ : ByteArray), .string (⟨#[48]⟩ : ByteArray), .string (⟨#[49]⟩ : ByteArray), .string (⟨#[49, 49, 49, 49, 49, 49, 49, 49, 49, 49, 49, 49, 49, 49, 49, 49, 49]⟩ : ByteArray), .string (⟨#[48, 48, 49, 49, 48, 48, 48, 49, 48, 48, 49, 49, 48, 48, 49, 48, 48, 48, 49, 49, 48, 48, 49, 49, 48, 48, 49, 49, 48, 49, 48, 48, 48, 48, 49, 49, 48, 49, 48, 49, 48, 48, 49, 49, 48, 49, 49, 48, 48, 48, 49, 49, 48, 49, 49, 49, 48, 48, 49, 49, 49, 48, 48, 48, 48, 48, 49, 49, 49, 48, 48, 49]⟩ : ByteArray)]) (ok := fun _ => True) (okp := fun _ => True) ?hr ?hp (fun _ hk => hk) trivial (Below.refl _ _) (Nat.le_refl _) (by simp) ?_; (case hd => rfl); (case hg => rfl); (case hr => first | (go_simp; done) | (go_simp; rfl)); (case hp => exact (Reps.one (show Kd.M Kd.string _ _ _ (⟨#[]⟩ : ByteArray) [.string (⟨#[]⟩ : ByteArray)] from rfl) (Reps.one (show Kd.M Kd.string _ _ _ (⟨#[48]⟩ : ByteArray) [.string (⟨#[48]⟩ : ByteArray)] from rfl) (Reps.one (show Kd.M Kd.string _ _ _ (⟨#[49]⟩ : ByteArray) [.string (⟨#[49]⟩ : ByteArray)] from rfl) (Reps.one (show Kd.M Kd.string _ _ _ (⟨#[49, 49, 49, 49, 49, 49, 49, 49, 49, 49, 49, 49, 49, 49, 49, 49, 49]⟩ : ByteArray) [.string (⟨#[49, 49, 49, 49, 49, 49, 49, 49, 49, 49, 49, 49, 49, 49, 49, 49, 49]⟩ : ByteArray)] from rfl) (Reps.one (show Kd.M Kd.string _ _ _ (⟨#[48, 48, 49, 49, 48, 48, 48, 49, 48, 48, 49, 49, 48, 48, 49, 48, 48, 48, 49, 49, 48, 48, 49, 49, 48, 48, 49, 49, 48, 49, 48, 48, 48, 48, 49, 49, 48, 49, 48, 49, 48, 48, 49, 49, 48, 49, 49, 48, 48, 48, 49, 49, 48, 49, 49, 49, 48, 48, 49, 49, 49, 48, 48, 48, 48, 48, 49, 49, 49, 48, 48, 49]⟩ : ByteArray) [.string (⟨#[48, 48, 49, 49, 48, 48, 48, 49, 48, 48, 49, 49, 48, 48, 49, 48, 48, 48, 49, 49, 48, 48, 49, 49, 48, 48, 49, 49, 48, 49, 48, 48, 48, 48, 49, 49, 48, 49, 48, 49, 48, 48, 49, 49, 48, 49, 49, 48, 48, 48, 49, 49, 48, 49, 49, 49, 48, 48, 49, 49, 49, 48, 48, 48, 48, 48, 49, 49, 49, 48, 48, 49]⟩ : ByteArray)] from rfl) (Reps.none _ _))))))); intro v111 w10 ho11 hb hg_ hnew_; clear hg_ hnew_; (first | rw [← Ny110.out] at ho11 | (simp only [Int.reduceToNat] at ho11; rw [← Ny110.out] at ho11)); have n0_ := Aside0.mk (Kd.R_lower ho11 (below_size (by repeat (first | (with_reducible first | exact HB.out | apply below_alloc | apply pw_below_drewN | apply below_drew1) | exact HB.out)))); have n1_ := Aside0.mk (below_step (by repeat (first | (with_reducible first | exact HB.out | apply below_alloc | apply pw_below_drewN | apply below_drew1) | exact HB.out)) hb); clear HB; have HO112 := n0_; have HB := n1_; clear n0_ n1_; clear hb ho11) | ((with_reducible refine gate_dst (N := 9) rfl ?_); refine Kd.R_lit (Kd.int .i64) _ 3 ?hg (N := 9) ?hd (xs := ([65535, 61407, 65534, 4129, 10673] : List Int)) (inner := [.int .i64 65535, .int .i64 61407, .int .i64 65534, .int .i64 4129, .int .i64 10673]) (ok := fun _ => True) (okp := fun _ => True) ?hr ?hp (fun _ hk => hk) trivial (Below.refl _ _) (Nat.le_refl _) (by simp) ?_; (case hd => rfl); (case hg => rfl); (case hr => first | (go_simp; done) | (go_simp; rfl)); (case hp => exact (Reps.one (show Kd.M (Kd.int .i64) _ _ _ 65535 [.int .i64 65535] from rfl) (Reps.one (show Kd.M (Kd.int .i64) _ _ _ 61407 [.int .i64 61407] from rfl) (Reps.one (show Kd.M (Kd.int .i64) _ _ _ 65534 [.int .i64 65534] from rfl) (Reps.one (show Kd.M (Kd.int .i64) _ _ _ 4129 [.int .i64 4129] from rfl) (Reps.one (show Kd.M (Kd.int .i64) _ _ _ 10673 [.int .i64 10673] from rfl) (Reps.none _ _))))))); intro v114 w12 ho13 hb hg_ hnew_; clear hg_ hnew_; (first | rw [← Ny113.out] at ho13 | (simp only [Int.reduceToNat] at ho13; rw [← Ny113.out] at ho13)); have n0_ := Aside0.mk (Kd.R_below (by (with_reducible repeat (first | apply Kd.R_alloc | apply Kd.R_drewN | apply Kd.R_drew)); exact HO112.out) hb); have n1_ := Aside0.mk (Kd.R_lower ho13 (below_size (by repeat (first | (with_reducible first | exact HB.out | apply below_alloc | apply pw_below_drewN | apply below_drew1) | exact HB.out)))); have n2_ := Aside0.mk (below_step (by repeat (first | (with_reducible first | exact HB.out | apply below_alloc | apply pw_below_drewN | apply below_drew1) | exact HB.out)) hb); clear HO112; clear HB; have HO112 := n0_; have HO115 := n1_; have HB := n2_; clear n0_ n1_ n2_; clear hb ho13) | ((with_reducible refine gate_callee (f := 34) rfl ?_); refine goesL_ (some 11) rfl rfl Try.func34 (by kernel_rfl) rfl #[.int .i64 a0, .int .i64 5] rfl (by (try simp only [List.map_toArray, List.map_cons, List.map_nil]); first | done | rfl | (simp only [List.length_drop, List.length_take]; rfl)) ?_; (with_reducible refine (plaitinglaw2_within.calls a0 5 t116 _ A4.out).mono ?_); rintro e w' ⟨rfl, ⟨nd, rfl⟩⟩; refine ⟨_, rfl, ?_⟩))
          (try (rw [drewN_self w12]; generalize hq_ : World.drewN w12 _ = w12; have n0_ : Aside0 (Kd.R Kd.string 9 w12 w.heap.size (fun _ => True) v111 y110) := ⟨by rw [← hq_]; exact (by (with_reducible repeat (first | apply Kd.R_alloc | apply Kd.R_drewN | apply Kd.R_drew)); exact HO112.out)⟩; have n1_ : Aside0 (Kd.R (Kd.int .i64) 3 w12 w.heap.size (fun _ => True) v114 y113) := ⟨by rw [← hq_]; exact (by (with_reducible repeat (first | apply Kd.R_alloc | apply Kd.R_drewN | apply Kd.R_drew)); exact HO115.out)⟩; have n2_ : Aside0 (Below w.heap.size w w12) := ⟨by rw [← hq_]; exact (by repeat (first | (with_reducible first | exact HB.out | apply below_alloc | apply pw_below_drewN | apply below_drew1) | exact HB.out))⟩; clear HO112 HO115 HB hq_; have HO112 := n0_; have HO115 := n1_; have HB := n2_; clear n0_ n1_ n2_))
          have n0_ := Aside0.mk (Kd.R_drew HO112.out)
          have n1_ := Aside0.mk (Kd.R_drew HO115.out)
          have n2_ := Aside0.mk (below_drew1 HB.out)
          clear HO112
          clear HO115
          clear HB
          have HO112 := n0_
          have HO115 := n1_
          have HB := n2_
          clear n0_ n1_ n2_
          obtain ⟨Ao15, co15, eo15⟩ := Kd.R_slice HO112.out
          (first | subst eo15 | (injection eo15 with f1_ f2_ f3_; have f4_ := f1_.symm; have f5_ := f3_.symm; clear f1_ f2_ f3_; subst f4_; subst f5_))
          have p117 : 0 ≤ (t116 : Int) := of_decide_eq_true (by first | (with_reducible assumption) | assumption)
          have q117 : t116 < (y110.length : Int) := of_decide_eq_true (by first | (with_reducible assumption) | assumption)
          obtain ⟨ad117, e117, hx117_0⟩ := Kd.at_string (Kd.R_reads' HO112.out).2.2 t116 p117 q117
          cases e117
          replace p117 := eq_true p117
          replace q117 := eq_true q117
          obtain ⟨Ao16, co16, eo16⟩ := Kd.R_slice HO115.out
          (first | subst eo16 | (injection eo16 with f1_ f2_ f3_; have f4_ := f1_.symm; have f5_ := f3_.symm; clear f1_ f2_ f3_; subst f4_; subst f5_))
          have p119 : 0 ≤ (t116 : Int) := of_decide_eq_true (by first | (with_reducible assumption) | assumption)
          have q119 : t116 < (y113.length : Int) := of_decide_eq_true (by first | (with_reducible assumption) | assumption)
          obtain ⟨ad119, e119, hx119_0⟩ := Kd.at_int (Kd.R_reads' HO115.out).2.2 t116 p119 q119
          cases e119
          replace p119 := eq_true p119
          replace q119 := eq_true q119
          refine start_ (n := 11) (S := fun w' => w'.cell? (ad117.add (t116).toNat) = some (.string (rdOf ByteArray.empty y110 t116)) ∧ w'.cell? (ad119.add (t116).toNat) = some (.int .i64 (rd y113 t116))) (ds := []) #[false, false, false, false, false, false, false, false, false, false, false] (by kernel_rfl) rfl rfl ⟨hx117_0, hx119_0⟩ (fun hHeld => ?_); refine with_tabW plaitinglaw2_CrcKnown.tab6 plaitinglaw2_CrcKnown.bits6 (fun HT_ HW_ => ?_)
          generalize w12.drew = w14 at HO112 HO115 HB hx117_0 hx119_0 hHeld ⊢
          refine pure_ (i := 0) (N := some 12) (v := ?_) (a' := ?_) #[true, false, false, false, false, false, false, false, false, false, false] rfl rfl (any_of HT_.out (by kernel_rfl)) (fun _ _ _ h => h) (Or.inl ⟨by rfl, ?_⟩) ?_ ?_
          rotate_left
          · intro w'
            go_simp
            with_reducible rfl
          rotate_left
          · simp only [Act.put, List.setIfInBounds_toArray, List.set_cons_zero, List.set_cons_succ, i64_w, i32_w]
            rfl
          refine pure_ (i := 1) (N := some 13) (v := ?_) (a' := ?_) #[true, true, false, false, false, false, false, false, false, false, false] rfl rfl (any_of HT_.out (by kernel_rfl)) (fun _ _ _ h => h) (Or.inl ⟨by rfl, ?_⟩) ?_ ?_
          rotate_left
          · intro w'
            go_simp
            with_reducible rfl
          rotate_left
          · simp only [Act.put, List.setIfInBounds_toArray, List.set_cons_zero, List.set_cons_succ, i64_w, i32_w]
            rfl
          refine pure_ (i := 2) (N := some 14) (v := ?_) (a' := ?_) #[true, true, true, false, false, false, false, false, false, false, false] rfl rfl (any_of HT_.out (by kernel_rfl)) (fun _ _ _ h => h) (Or.inl ⟨by rfl, ?_⟩) ?_ ?_
          rotate_left
          · intro w'
            go_simp
            with_reducible rfl
          rotate_left
          · simp only [Act.put, List.setIfInBounds_toArray, List.set_cons_zero, List.set_cons_succ, i64_w, i32_w]
            rfl
          refine pure_ (i := 5) (N := some 17) (v := ?_) (a' := ?_) #[true, true, true, false, false, true, false, false, false, false, false] rfl rfl (any_of HT_.out (by kernel_rfl)) (fun _ _ _ h => h) (Or.inl ⟨by rfl, ?_⟩) ?_ ?_
          rotate_left
          · intro w'
            go_simp
            with_reducible rfl
          rotate_left
          · simp only [Act.put, List.setIfInBounds_toArray, List.set_cons_zero, List.set_cons_succ, i64_w, i32_w]
            rfl
          refine pure_ (i := 6) (N := some 18) (v := ?_) (a' := ?_) #[true, true, true, false, false, true, true, false, false, false, false] rfl rfl (any_of HT_.out (by kernel_rfl)) (fun _ _ _ h => h) (Or.inl ⟨by rfl, ?_⟩) ?_ ?_
          rotate_left
          · intro w'
            go_simp
            with_reducible rfl
          rotate_left
          · simp only [Act.put, List.setIfInBounds_toArray, List.set_cons_zero, List.set_cons_succ, i64_w, i32_w]
            rfl
          refine pure_ (i := 7) (N := some 19) (v := ?_) (a' := ?_) #[true, true, true, false, false, true, true, true, false, false, false] rfl rfl (any_of HT_.out (by kernel_rfl)) (fun _ _ _ h => h) (Or.inl ⟨by rfl, ?_⟩) ?_ ?_
          rotate_left
          · intro w'
            go_simp
            with_reducible rfl
          rotate_left
          · simp only [Act.put, List.setIfInBounds_toArray, List.set_cons_zero, List.set_cons_succ, i64_w, i32_w]
            rfl
          refine take_ (i := 3) (N := some 15) (v := ?_) (a' := ?_) #[true, true, true, true, false, true, true, true, false, false, false] rfl rfl (take_ofW HT_.out HW_.out (by kernel_rfl)) (fun _ _ _ h => h) (Or.inl ⟨by rfl, ?_⟩) hHeld ?_ ?_
          rotate_left
          · rintro w' ⟨s0, s1⟩
            go_simp
            with_reducible rfl
          rotate_left
          · simp only [Act.put, List.setIfInBounds_toArray, List.set_cons_zero, List.set_cons_succ, i64_w, i32_w]
            rfl
          refine take_ (i := 8) (N := some 20) (v := ?_) (a' := ?_) #[true, true, true, true, false, true, true, true, true, false, false] rfl rfl (take_ofW HT_.out HW_.out (by kernel_rfl)) (fun _ _ _ h => h) (Or.inl ⟨by rfl, ?_⟩) hHeld ?_ ?_
          rotate_left
          · rintro w' ⟨s0, s1⟩
            go_simp
            with_reducible rfl
          rotate_left
          · simp only [Act.put, List.setIfInBounds_toArray, List.set_cons_zero, List.set_cons_succ, i64_w, i32_w]
            rfl
          refine one_ (i := 4) (N := some 16) #[true, true, true, true, true, true, true, true, true, false, false] rfl rfl (one_of HT_.out (by kernel_rfl)) (by decide) (fun K hK => ?_)
          refine goes_ Try.func35 (by kernel_rfl) rfl #[.string (rdOf ByteArray.empty y110 t116)] (by rfl) rfl rfl (by (try simp only [List.map_toArray, List.map_cons, List.map_nil]); first | done | rfl | (simp only [List.length_drop, List.length_take]; rfl)) ?_
          with_reducible refine (crc_Sum.calls (rdOf ByteArray.empty y110 t116) t118 _ A7.out).mono ?_
          rintro e w17 ⟨rfl, hb⟩
          have HS0_ := (hb.cell (World.block_lt_of_cell? _ _ (hHeld.1))).trans (hHeld.1)
          have HS1_ := (hb.cell (World.block_lt_of_cell? _ _ (hHeld.2))).trans (hHeld.2)
          refine ⟨_, rfl, ?_⟩
          have n0_ := Aside0.mk (Kd.R_below (by (with_reducible repeat (first | apply Kd.R_alloc | apply Kd.R_drewN | apply Kd.R_drew)); exact HO112.out) hb)
          have n1_ := Aside0.mk (Kd.R_below (by (with_reducible repeat (first | apply Kd.R_alloc | apply Kd.R_drewN | apply Kd.R_drew)); exact HO115.out) hb)
          have n2_ := Aside0.mk (below_step (by repeat (first | (with_reducible first | exact HB.out | apply below_alloc | apply pw_below_drewN | apply below_drew1) | exact HB.out)) hb)
          clear HO112
          clear HO115
          clear HB
          have HO112 := n0_
          have HO115 := n1_
          have HB := n2_
          clear n0_ n1_ n2_
          (try clear hb)
          (try clear hb2)
          (try clear hk)
          (try clear hi)
          refine hK.out _ _ ⟨HS0_, HS1_⟩ (fun hHeld => ?_)
          clear hK K
          refine norm_ (a' := ?_) ?_ ?_
          rotate_left
          · show Act.put _ (some 16) _ = _
            simp only [Act.put, List.setIfInBounds_toArray, List.set_cons_zero, List.set_cons_succ, i64_w, i32_w]
            rfl
          refine pure_ (i := 9) (N := some 21) (v := ?_) (a' := ?_) #[true, true, true, true, true, true, true, true, true, true, false] rfl rfl (any_of HT_.out (by kernel_rfl)) (fun _ _ _ h => h) (Or.inl ⟨by rfl, ?_⟩) ?_ ?_
          rotate_left
          · intro w'
            go_simp
            with_reducible rfl
          rotate_left
          · simp only [Act.put, List.setIfInBounds_toArray, List.set_cons_zero, List.set_cons_succ, i64_w, i32_w]
            rfl
          refine pure_ (i := 10) (N := some 2) (v := ?_) (a' := ?_) #[true, true, true, true, true, true, true, true, true, true, true] rfl rfl (any_of HT_.out (by kernel_rfl)) (fun _ _ _ h => h) (Or.inl ⟨by rfl, ?_⟩) ?_ ?_
          rotate_left
          · intro w'
            go_simp
            with_reducible rfl
          rotate_left
          · simp only [Act.put, List.setIfInBounds_toArray, List.set_cons_zero, List.set_cons_succ, i64_w, i32_w]
            rfl
          refine done_ (done_of HT_.out (by kernel_rfl)) ?_
          try go_wp2
          go_ret
          exact ⟨by first | rfl | (simp [errW_none, errW_some] <;> rfl) | (simp [*, errW_none, errW_some] <;> rfl), by repeat (first | (with_reducible first | exact HB.out | apply below_alloc | apply pw_below_drewN | apply below_drew1) | exact HB.out)⟩
        · rw [if_neg c8] at H
          exact absurd H (by simp)
      · rw [if_neg c6] at H
        exact absurd H (by simp)
    · rw [if_neg c5] at H
      exact absurd H (by simp)
  · replace c3 := Bool.eq_false_iff.mpr c3
    subst c3
    have H1 : (some false) = some r := by rw [if_neg (show ¬ (false = true) by decide)] at H; exact H
    clear H
    have H := H1
    clear H1
    obtain rfl := Option.some.inj H
    go_enter Try.func7, Try.ntmps7
    go_wp2_with (first | ((with_reducible refine gate_callee (f := 33) rfl ?_); refine goesL_ (some 6) rfl rfl Try.func33 (by kernel_rfl) rfl #[] rfl (by (try simp only [List.map_toArray, List.map_cons, List.map_nil]); first | done | rfl | (simp only [List.length_drop, List.length_take]; rfl)) ?_; (with_reducible refine (plaitinglaw2_known.calls k  false _ A2.out).mono ?_); rintro e w18 ⟨rfl, hb⟩; refine ⟨_, rfl, ?_⟩; have n0_ := Aside0.mk (below_step (by repeat (first | (with_reducible first | exact HB.out | apply below_alloc | apply pw_below_drewN | apply below_drew1) | exact HB.out)) hb); clear HB; have HB := n0_; clear n0_; (try clear hb); (try clear hb2); (try clear hk); (try clear hi)))
    go_ret
    exact ⟨by first | rfl | (simp [errW_none, errW_some] <;> rfl) | (simp [*, errW_none, errW_some] <;> rfl), by repeat (first | (with_reducible first | exact HB.out | apply below_alloc | apply pw_below_drewN | apply below_drew1) | exact HB.out)⟩

/-- THE ONE PURE STATEMENT of plaitinglaw2_CrcKnown: yours. -/
def plaitinglaw2_CrcKnown.Pure : Prop := ∀ (a0 : Int), (Lit.int .i64 a0).wf = true → ∃ k, plaitinglaw2_CrcKnown.f k a0 = some true
theorem plaitinglaw2_CrcKnown.walk (P : plaitinglaw2_CrcKnown.Pure) (a0 : Int) (w : World) (w0 : (Lit.int .i64 a0).wf = true) :
    Calls Try.prog 7 #[.int .i64 a0] w fun e w' => e = .returned (.bool true) ∧ Below w.heap.size w w' := by
  obtain ⟨k, h⟩ := P a0 w0
  refine (plaitinglaw2_CrcKnown.calls k a0 true w h).mono ?_
  rintro e w' ⟨rfl, hd⟩
  exact ⟨rfl, hd⟩

end Go.Proofs.Ytnggjnhfdjjphaa.PTwo
