-- Written by the session's own program (wip/gen).
import Derived.Test.YtegbklmmkamjgaaPCx0
import Derived.Test.YtegbklmmkamjgaaPCx3
import Derived.Test.YtegbklmmkamjgaaPCx4
import Derived.Test.YtegbklmmkamjgaaPCx7
namespace Go.Proofs.Ytegbklmmkamjgaa.PC
open Go.RowKit Go.Proofs.YtegbklmmkamjgaaW.PrintWords Go.Proofs.YtegbklmmkamjgaaW.PrintLast Go.Proofs.YtegbklmmkamjgaaW.PrintMore
attribute [local go_sem] max2_int min2_int max_two min_two max_three min_three max_four min_four   -- for this text's walks alone
set_option linter.unusedVariables false
set_option linter.unusedSimpArgs false

/-! ### plaitinglaw12_SyncHolds: function 9 -/
mutual
def plaitinglaw12_SyncHolds.l0 : Nat → List Int → List Int → List Int → Int → Int → List Int → Int → Option (Bool)
  | 0, _, _, _, _, _, _, _ => none
  | k + 1, x0, x1, x2, x3, x4, x11, x12 => if x12 < x4 then (if x12 < (x0.length : Int) then (if 0 ≤ x12 then ((plaitinglaw12_within.f (rd x0 x12) 401).bind fun t133 => (if x11.length < 17592186044416 then (plaitinglaw12_SyncHolds.l0 k x0 x1 x2 x3 x4 (x11 ++ [wrap64 (t133 - 200)]) (wrap64 (x12 + 1))) else (none))) else (none)) else (if x11.length < 17592186044416 then (plaitinglaw12_SyncHolds.l0 k x0 x1 x2 x3 x4 (x11 ++ [0]) (wrap64 (x12 + 1))) else (none))) else (plaitinglaw12_SyncHolds.l1 k x1 x2 x3 x4 x11 ([] : List Int) 0)
def plaitinglaw12_SyncHolds.l1 : Nat → List Int → List Int → Int → Int → List Int → List Int → Int → Option (Bool)
  | 0, _, _, _, _, _, _, _ => none
  | k + 1, x1, x2, x3, x4, x11, x14, x15 => if x15 < x4 then (plaitinglaw12_SyncHolds.l2 k x1 x2 x3 x4 x11 x14 x15 ([] : List (S35)) 0) else ((plaitingref12_Skew.f k x14).bind fun t140 => ((plaitingref12_Skew.f k x11).bind fun t141 => (some (decide ((wrap64 (2 * t140)) ≤ (wrap64 ((wrap64 (t141 + (wrap64 (4 * x3)))) + 2)))))))
def plaitinglaw12_SyncHolds.l2 : Nat → List Int → List Int → Int → Int → List Int → List Int → Int → List (S35) → Int → Option (Bool)
  | 0, _, _, _, _, _, _, _, _, _ => none
  | k + 1, x1, x2, x3, x4, x11, x14, x15, x16, x17 => if x17 < x4 then (if x17 = x15 then (plaitinglaw12_SyncHolds.l2 k x1 x2 x3 x4 x11 x14 x15 x16 (wrap64 (x17 + 1))) else (if 0 ≤ x17 then (if x17 < (x11.length : Int) then (if 0 ≤ x15 then (if x15 < (x11.length : Int) then (if (x1.length : Int) > 0 then (if (x1.length : Int) = 0 then (none) else (if 0 ≤ (Int.tmod (wrap64 ((wrap64 (7 * x15)) + x17)) (x1.length : Int)) then (if (Int.tmod (wrap64 ((wrap64 (7 * x15)) + x17)) (x1.length : Int)) < (x1.length : Int) then ((plaitinglaw12_within.f (rd x1 (Int.tmod (wrap64 ((wrap64 (7 * x15)) + x17)) (x1.length : Int))) (wrap64 ((wrap64 (2 * x3)) + 1))).bind fun t145 => (if x16.length < 5864062014805 then (plaitinglaw12_SyncHolds.l2 k x1 x2 x3 x4 x11 x14 x15 (x16 ++ [(⟨x17, 3, wrap64 ((wrap64 ((wrap64 ((rd x11 x17) - (rd x11 x15))) + t145)) - x3)⟩ : S35)]) (wrap64 (x17 + 1))) else (none))) else (none)) else (none))) else (if x16.length < 5864062014805 then (plaitinglaw12_SyncHolds.l2 k x1 x2 x3 x4 x11 x14 x15 (x16 ++ [(⟨x17, 3, wrap64 ((rd x11 x17) - (rd x11 x15))⟩ : S35)]) (wrap64 (x17 + 1))) else (none))) else (none)) else (none)) else (none)) else (none))) else (if (x2.length : Int) > 0 then (if (x2.length : Int) = 0 then (none) else (if 0 ≤ (Int.tmod x15 (x2.length : Int)) then (if (Int.tmod x15 (x2.length : Int)) < (x2.length : Int) then ((plaitinglaw12_within.f (rd x2 (Int.tmod x15 (x2.length : Int))) 20001).bind fun t153 => (if x16.length < 5864062014805 then (if 0 ≤ x15 then (if x15 < (x11.length : Int) then ((sync_Step.f 4 x15 (x16 ++ [(⟨x4, 3, wrap64 (t153 - 10000)⟩ : S35)])).bind fun t158 => (if x14.length < 17592186044416 then (plaitinglaw12_SyncHolds.l1 k x1 x2 x3 x4 x11 (x14 ++ [wrap64 ((rd x11 x15) + t158)]) (wrap64 (x15 + 1))) else (none))) else (none)) else (none)) else (none))) else (none)) else (none))) else (if 0 ≤ x15 then (if x15 < (x11.length : Int) then ((sync_Step.f 4 x15 x16).bind fun t163 => (if x14.length < 17592186044416 then (plaitinglaw12_SyncHolds.l1 k x1 x2 x3 x4 x11 (x14 ++ [wrap64 ((rd x11 x15) + t163)]) (wrap64 (x15 + 1))) else (none))) else (none)) else (none)))
end
def plaitinglaw12_SyncHolds.f (k : Nat) (l0 : List Int) (l1 : List Int) (l2 : List Int) (a3 : Int) (a4 : Int) : Option (Bool) := (plaitinglaw12_known.f).bind fun t129 => (if t129 = true then ((plaitinglaw12_within.f a4 8).bind fun t130 => ((plaitinglaw12_within.f a3 30).bind fun t131 => (plaitinglaw12_SyncHolds.l0 k l0 l1 l2 t131 (wrap64 (4 + t130)) ([] : List Int) 0))) else (some false))
theorem plaitinglaw12_SyncHolds.mono_l : ∀ k, (∀ y0 y1 y2 y3 y4 y5 y6, LeO (plaitinglaw12_SyncHolds.l0 k y0 y1 y2 y3 y4 y5 y6) (plaitinglaw12_SyncHolds.l0 (k + 1) y0 y1 y2 y3 y4 y5 y6)) ∧ (∀ y0 y1 y2 y3 y4 y5 y6, LeO (plaitinglaw12_SyncHolds.l1 k y0 y1 y2 y3 y4 y5 y6) (plaitinglaw12_SyncHolds.l1 (k + 1) y0 y1 y2 y3 y4 y5 y6)) ∧ (∀ y0 y1 y2 y3 y4 y5 y6 y7 y8, LeO (plaitinglaw12_SyncHolds.l2 k y0 y1 y2 y3 y4 y5 y6 y7 y8) (plaitinglaw12_SyncHolds.l2 (k + 1) y0 y1 y2 y3 y4 y5 y6 y7 y8))
  | 0 => ⟨fun _ _ _ _ _ _ _ r h => by simp [plaitinglaw12_SyncHolds.l0] at h, fun _ _ _ _ _ _ _ r h => by simp [plaitinglaw12_SyncHolds.l1] at h, fun _ _ _ _ _ _ _ _ _ r h => by simp [plaitinglaw12_SyncHolds.l2] at h⟩
  | k + 1 => by
    obtain ⟨ih0, ih1, ih2⟩ := plaitinglaw12_SyncHolds.mono_l k
    refine ⟨?_, ?_, ?_⟩
    · intro y0 y1 y2 y3 y4 y5 y6
      unfold plaitinglaw12_SyncHolds.l0
      repeat' first
      | (with_reducible exact ih0 _ _ _ _ _ _ _)
      | (with_reducible exact ih1 _ _ _ _ _ _ _)
      | (with_reducible exact ih2 _ _ _ _ _ _ _ _ _)
      | (with_reducible exact plaitingref12_Skew.mono _ _)
      | (with_reducible exact LeO.refl _)
      | (with_reducible exact LeO.none _)
      | (with_reducible refine LeO.ite ?_ ?_)
      | (with_reducible refine LeO.bind ?_ (fun _ => ?_))
      | exact ih0 _ _ _ _ _ _ _
      | exact ih1 _ _ _ _ _ _ _
      | exact ih2 _ _ _ _ _ _ _ _ _
      | exact plaitingref12_Skew.mono _ _
      | exact LeO.none _
      | refine LeO.ite ?_ ?_
      | refine LeO.bind ?_ (fun _ => ?_)
    · intro y0 y1 y2 y3 y4 y5 y6
      unfold plaitinglaw12_SyncHolds.l1
      repeat' first
      | (with_reducible exact ih0 _ _ _ _ _ _ _)
      | (with_reducible exact ih1 _ _ _ _ _ _ _)
      | (with_reducible exact ih2 _ _ _ _ _ _ _ _ _)
      | (with_reducible exact plaitingref12_Skew.mono _ _)
      | (with_reducible exact LeO.refl _)
      | (with_reducible exact LeO.none _)
      | (with_reducible refine LeO.ite ?_ ?_)
      | (with_reducible refine LeO.bind ?_ (fun _ => ?_))
      | exact ih0 _ _ _ _ _ _ _
      | exact ih1 _ _ _ _ _ _ _
      | exact ih2 _ _ _ _ _ _ _ _ _
      | exact plaitingref12_Skew.mono _ _
      | exact LeO.none _
      | refine LeO.ite ?_ ?_
      | refine LeO.bind ?_ (fun _ => ?_)
    · intro y0 y1 y2 y3 y4 y5 y6 y7 y8
      unfold plaitinglaw12_SyncHolds.l2
      repeat' first
      | (with_reducible exact ih0 _ _ _ _ _ _ _)
      | (with_reducible exact ih1 _ _ _ _ _ _ _)
      | (with_reducible exact ih2 _ _ _ _ _ _ _ _ _)
      | (with_reducible exact plaitingref12_Skew.mono _ _)
      | (with_reducible exact LeO.refl _)
      | (with_reducible exact LeO.none _)
      | (with_reducible refine LeO.ite ?_ ?_)
      | (with_reducible refine LeO.bind ?_ (fun _ => ?_))
      | exact ih0 _ _ _ _ _ _ _
      | exact ih1 _ _ _ _ _ _ _
      | exact ih2 _ _ _ _ _ _ _ _ _
      | exact plaitingref12_Skew.mono _ _
      | exact LeO.none _
      | refine LeO.ite ?_ ?_
      | refine LeO.bind ?_ (fun _ => ?_)
theorem plaitinglaw12_SyncHolds.mono : ∀ a0 a1 a2 a3 a4 k, LeO (plaitinglaw12_SyncHolds.f k a0 a1 a2 a3 a4) (plaitinglaw12_SyncHolds.f (k + 1) a0 a1 a2 a3 a4) := by
  intro a0 a1 a2 a3 a4 k
  obtain ⟨ih0, ih1, ih2⟩ := plaitinglaw12_SyncHolds.mono_l k
  unfold plaitinglaw12_SyncHolds.f
  repeat' first
      | (with_reducible exact ih0 _ _ _ _ _ _ _)
      | (with_reducible exact ih1 _ _ _ _ _ _ _)
      | (with_reducible exact ih2 _ _ _ _ _ _ _ _ _)
      | (with_reducible exact plaitingref12_Skew.mono _ _)
      | (with_reducible exact LeO.refl _)
      | (with_reducible exact LeO.none _)
      | (with_reducible refine LeO.ite ?_ ?_)
      | (with_reducible refine LeO.bind ?_ (fun _ => ?_))
      | exact ih0 _ _ _ _ _ _ _
      | exact ih1 _ _ _ _ _ _ _
      | exact ih2 _ _ _ _ _ _ _ _ _
      | exact plaitingref12_Skew.mono _ _
      | exact LeO.none _
      | refine LeO.ite ?_ ?_
      | refine LeO.bind ?_ (fun _ => ?_)
def plaitinglaw12_SyncHolds.T21 : Bool × List (List Nat × List Nat) := (true, [([], []), ([], []), ([0, 1], [0, 1]), ([2], [2]), ([], []), ([], []), ([4, 5], [4, 5]), ([6], [6]), ([3, 7], [3, 7]), ([8, 0, 1, 2, 3, 4, 5, 6, 7, 8], [8])])
def plaitinglaw12_SyncHolds.B21 : List Nat := [0, 0, 3, 7, 0, 0, 48, 112, 255, 511]
theorem plaitinglaw12_SyncHolds.tab21 : rtab .any (opsOf Try.f9 21) = plaitinglaw12_SyncHolds.T21 := by kernel_rfl
theorem plaitinglaw12_SyncHolds.bits21 : waitsOk plaitinglaw12_SyncHolds.T21.2 plaitinglaw12_SyncHolds.B21 = true := by kernel_rfl
def plaitinglaw12_SyncHolds.T27 : Bool × List (List Nat × List Nat) := (true, [([], []), ([], []), ([], []), ([1, 2], [1, 2]), ([3], [3]), ([], []), ([], []), ([5, 6], [5, 6]), ([4, 7], [4, 7]), ([8], [8]), ([0, 9, 7], [0, 9]), ([10, 10, 0, 1, 2, 3, 4, 5, 6, 7, 8, 9, 10], [0, 10])])
def plaitinglaw12_SyncHolds.B27 : List Nat := [0, 0, 0, 6, 14, 0, 0, 96, 254, 510, 1023, 2047]
theorem plaitinglaw12_SyncHolds.tab27 : rtab .any (opsOf Try.f9 27) = plaitinglaw12_SyncHolds.T27 := by kernel_rfl
theorem plaitinglaw12_SyncHolds.bits27 : waitsOk plaitinglaw12_SyncHolds.T27.2 plaitinglaw12_SyncHolds.B27 = true := by kernel_rfl
set_option maxHeartbeats 8000000 in
set_option maxRecDepth 100000 in
theorem plaitinglaw12_SyncHolds.calls (k : Nat) (A0 : Option Addr) (c0 : Nat) (l0 : List Int) (A1 : Option Addr) (c1 : Nat) (l1 : List Int) (A2 : Option Addr) (c2 : Nat) (l2 : List Int) (a3 : Int) (a4 : Int) (r : Bool) (w : World) (hr0 : Kd.C (Kd.int .i64) w A0 l0.length l0) (hc0 : l0.length ≤ c0) (hr1 : Kd.C (Kd.int .i64) w A1 l1.length l1) (hc1 : l1.length ≤ c1) (hr2 : Kd.C (Kd.int .i64) w A2 l2.length l2) (hc2 : l2.length ≤ c2) (h : plaitinglaw12_SyncHolds.f k l0 l1 l2 a3 a4 = some r) :
    Calls Try.prog 9 #[.slice A0 l0.length c0, .slice A1 l1.length c1, .slice A2 l2.length c2, .int .i64 a3, .int .i64 a4] w fun e w' => e = .returned (.bool r) ∧ Below w.heap.size w w' := by
  have hu35 := Try.underlying35
  have HR0 := Aside0.mk hr0
  have HC0 := Aside0.mk hc0
  clear hr0 hc0
  have HR1 := Aside0.mk hr1
  have HC1 := Aside0.mk hc1
  clear hr1 hc1
  have HR2 := Aside0.mk hr2
  have HC2 := Aside0.mk hc2
  clear hr2 hc2
  have HB := Aside0.mk (Below.refl w.heap.size w)
  have H : ((plaitinglaw12_known.f).bind fun t129 => (if t129 = true then ((plaitinglaw12_within.f a4 8).bind fun t130 => ((plaitinglaw12_within.f a3 30).bind fun t131 => (plaitinglaw12_SyncHolds.l0 k l0 l1 l2 t131 (wrap64 (4 + t130)) ([] : List Int) 0))) else (some false))) = some r := h
  clear h
  replace H := Option.bind_eq_some_iff.mp H
  obtain ⟨t129, A60, H⟩ := H
  replace H : (if t129 = true then ((plaitinglaw12_within.f a4 8).bind fun t130 => ((plaitinglaw12_within.f a3 30).bind fun t131 => (plaitinglaw12_SyncHolds.l0 k l0 l1 l2 t131 (wrap64 (4 + t130)) ([] : List Int) 0))) else (some false)) = some r := H
  have A6 := Aside0.mk A60
  clear A60
  by_cases c7 : t129 = true
  · subst c7
    have H1 : ((plaitinglaw12_within.f a4 8).bind fun t130 => ((plaitinglaw12_within.f a3 30).bind fun t131 => (plaitinglaw12_SyncHolds.l0 k l0 l1 l2 t131 (wrap64 (4 + t130)) ([] : List Int) 0))) = some r := by rw [if_pos rfl] at H; exact H
    clear H
    have H := H1
    clear H1
    replace H := Option.bind_eq_some_iff.mp H
    obtain ⟨t130, A80, H⟩ := H
    replace H : ((plaitinglaw12_within.f a3 30).bind fun t131 => (plaitinglaw12_SyncHolds.l0 k l0 l1 l2 t131 (wrap64 (4 + t130)) ([] : List Int) 0)) = some r := H
    have A8 := Aside0.mk A80
    clear A80
    replace H := Option.bind_eq_some_iff.mp H
    obtain ⟨t131, A90, H⟩ := H
    replace H : (plaitinglaw12_SyncHolds.l0 k l0 l1 l2 t131 (wrap64 (4 + t130)) ([] : List Int) 0) = some r := H
    have A9 := Aside0.mk A90
    clear A90
    have H' := Aside0.mk H
    clear H
    go_enter Try.func9, Try.ntmps9
    go_wp2_with (first | ((with_reducible refine gate_callee (f := 19) rfl ?_); refine goesL_ (some 19) rfl rfl Try.func19 (by kernel_rfl) rfl #[] rfl (by (try simp only [List.map_toArray, List.map_cons, List.map_nil]); first | done | rfl | (simp only [List.length_drop, List.length_take]; rfl)) ?_; (with_reducible refine (plaitinglaw12_known.calls  true _ A6.out).mono ?_); rintro e w10 ⟨rfl, hb⟩; refine ⟨_, rfl, ?_⟩; have n0_ := Aside0.mk (below_step (by repeat (first | (with_reducible first | exact HB.out | apply below_alloc | apply pw_below_drewN | apply below_drew1) | exact HB.out)) hb); clear HB; have HB := n0_; clear n0_; (try clear hb); (try clear hb2); (try clear hk); (try clear hi)) | ((with_reducible refine gate_callee (f := 20) rfl ?_); refine goesL_ (some 22) rfl rfl Try.func20 (by kernel_rfl) rfl #[.int .i64 a4, .int .i64 8] rfl (by (try simp only [List.map_toArray, List.map_cons, List.map_nil]); first | done | rfl | (simp only [List.length_drop, List.length_take]; rfl)) ?_; (with_reducible refine (plaitinglaw12_within.calls a4 8 t130 _ A8.out).mono ?_); rintro e w' ⟨rfl, ⟨nd, rfl⟩⟩; refine ⟨_, rfl, ?_⟩) | ((with_reducible refine gate_callee (f := 20) rfl ?_); refine goesL_ (some 25) rfl rfl Try.func20 (by kernel_rfl) rfl #[.int .i64 a3, .int .i64 30] rfl (by (try simp only [List.map_toArray, List.map_cons, List.map_nil]); first | done | rfl | (simp only [List.length_drop, List.length_take]; rfl)) ?_; (with_reducible refine (plaitinglaw12_within.calls a3 30 t131 _ A9.out).mono ?_); rintro e w' ⟨rfl, ⟨nd, rfl⟩⟩; refine ⟨_, rfl, ?_⟩))
    go_loopg [11, 12] k (fun kq v11 v12 w' => ∃ (x11_1 : List Int) (x12_1 : Int), v12 = .int .i64 x12_1 ∧ Aside0 (plaitinglaw12_SyncHolds.l0 kq l0 l1 l2 t131 (wrap64 (4 + t130)) x11_1 x12_1 = some r) ∧ Aside0 (kq ≤ k) ∧ Aside0 (Kd.R (Kd.int .i64) 3 w' w.heap.size (fun _ => True) v11 x11_1) ∧ Aside0 (Below w.heap.size w w'))
    case atStart => exact ⟨(([] : List Int)), (0), (by first | rfl | (simp; done) | (simp [*]; done)), H', ⟨Nat.le_refl _⟩, ⟨by first | exact Kd.R_nil _ _ _ _ _ | exact Kd.N_nil _ _ _ _ _ | exact Kd.V_nil _ _ _ _ _ | exact Kd.Q_nil _ _ _ _ _ | exact Kd.S_nil _ _ _ _ _⟩, ⟨by repeat (first | (with_reducible first | exact HB.out | apply below_alloc | apply pw_below_drewN | apply below_drew1) | exact HB.out)⟩⟩
    case round =>
      clear H'
      try clear c1
      try clear c2
      try clear p2
      try clear p6
      try clear c7
      try clear c9
      obtain ⟨x11_1, x12_1, rfl, HA, HK1, HO_11, HB⟩ := hrel
      cases gk with
      | zero => exact absurd HA.out (by simp [plaitinglaw12_SyncHolds.l0])
      | succ k1 =>
        have H := HA.out
        clear HA
        simp only [plaitinglaw12_SyncHolds.l0] at H
        by_cases c11 : x12_1 < (wrap64 (4 + t130))
        · rw [if_pos c11] at H
          have c11b0 : decide (x12_1 < (wrap64 (4 + t130))) = true := decide_eq_true c11
          clear c11
          by_cases c12 : x12_1 < (l0.length : Int)
          · rw [if_pos c12] at H
            have c12b0 : decide (x12_1 < (l0.length : Int)) = true := decide_eq_true c12
            clear c12
            by_cases c13 : 0 ≤ x12_1
            · rw [if_pos c13] at H
              have c13b0 : decide (0 ≤ x12_1) = true := decide_eq_true c13
              clear c13
              replace H := Option.bind_eq_some_iff.mp H
              obtain ⟨t133, A140, H⟩ := H
              replace H : (if x11_1.length < 17592186044416 then (plaitinglaw12_SyncHolds.l0 k1 l0 l1 l2 t131 (wrap64 (4 + t130)) (x11_1 ++ [wrap64 (t133 - 200)]) (wrap64 (x12_1 + 1))) else (none)) = some r := H
              have A14 := Aside0.mk A140
              clear A140
              by_cases c15 : x11_1.length < 17592186044416
              · rw [if_pos c15] at H
                have LMc15 := Aside0.mk c15
                clear c15
                obtain ⟨y134, hy134⟩ : ∃ y_ : List Int, y_ = (x11_1 ++ [wrap64 (t133 - 200)]) := ⟨_, rfl⟩
                replace H : (plaitinglaw12_SyncHolds.l0 k1 l0 l1 l2 t131 (wrap64 (4 + t130)) y134 (wrap64 (x12_1 + 1))) = some r := by first | (rw [hy134]; with_reducible exact H) | (have H2_ := (Option.bind_some _ _).symm.trans H; rw [hy134]; with_reducible exact H2_) | (have H2_ := (Option.bind_some _ _).symm.trans H; with_reducible exact H2_) | with_reducible exact H | (rw [hy134]; exact H) | exact H
                have Ny134 := Aside0.mk hy134
                clear hy134
                have H' := Aside0.mk H
                clear H
                have p132 : 0 ≤ (x12_1 : Int) := of_decide_eq_true (by first | (with_reducible assumption) | assumption)
                have q132 : x12_1 < (l0.length : Int) := of_decide_eq_true (by first | (with_reducible assumption) | assumption)
                obtain ⟨ad132, e132, hx132_0⟩ := Kd.at_int HR0.out x12_1 p132 q132
                cases e132
                replace hx132_0 := (HB.out.cell (World.block_lt_of_cell? w _ hx132_0)).trans hx132_0
                replace p132 := eq_true p132
                replace q132 := eq_true q132
                go_wp2_with (first | ((with_reducible refine gate_callee (f := 20) rfl ?_); refine goesL_ (some 39) rfl rfl Try.func20 (by kernel_rfl) rfl #[.int .i64 (rd l0 x12_1), .int .i64 401] rfl (by (try simp only [List.map_toArray, List.map_cons, List.map_nil]); first | done | rfl | (simp only [List.length_drop, List.length_take]; rfl)) ?_; (with_reducible refine (plaitinglaw12_within.calls (rd l0 x12_1) 401 t133 _ A14.out).mono ?_); rintro e w' ⟨rfl, ⟨nd, rfl⟩⟩; refine ⟨_, rfl, ?_⟩) | ((with_reducible refine gate_builtin (b := .append) (xs := #[.tmp 41, .tmp 43]) rfl ?_); at_builtin; refine Kd.R_append (Kd.int .i64) (w0 := w) w.heap.size rfl (.tmp 41) (.tmp 43) 22 3 (.int .i64 0) 8 rfl Try.underlying22 info3 rfl (by decide) (by omega) u11 x11_1 (wrap64 (t133 - 200)) [.int .i64 (wrap64 (t133 - 200))] (fun _ => True) (fun _ => False) rfl rfl ?aP (fun _ hk => hk.elim) ?aF ?aO ?aB ?aS ?aL ?_; (case aP => exact rfl); (case aB => exact (by repeat (first | (with_reducible first | exact HB.out | apply below_alloc | apply pw_below_drewN | apply below_drew1) | exact HB.out))); (case aF => exact (fun _ _ => trivial)); (case aO => exact (by (with_reducible repeat (first | apply Kd.R_alloc | apply Kd.R_drewN | apply Kd.R_drew)); exact HO_11.out)); (case aS => exact (below_size (by repeat (first | (with_reducible first | exact HB.out | apply below_alloc | apply pw_below_drewN | apply below_drew1) | exact HB.out)))); (case aL => have := LMc15.out; omega); intro v135 w16 ho hb hg hat; rw [← Ny134.out] at ho; have n0_ := Aside0.mk (hb); have n1_ := Aside0.mk (ho); clear HB; clear HO_11; have HB := n0_; have HO136 := n1_; clear n0_ n1_; clear ho hb hg hat))
                go_roundg k1
                case measure => have := HK1.out; omega
                case rel => exact ⟨(y134), (wrap64 (x12_1 + 1)), (by first | rfl | (simp; done) | (simp [*]; done)), H', ⟨by have := HK1.out; omega⟩, ⟨by (with_reducible repeat (first | apply Kd.R_alloc | apply Kd.R_drewN | apply Kd.R_drew)); exact HO136.out⟩, ⟨by repeat (first | (with_reducible first | exact HB.out | apply below_alloc | apply pw_below_drewN | apply below_drew1) | exact HB.out)⟩⟩
              · rw [if_neg c15] at H
                exact absurd H (by simp)
            · rw [if_neg c13] at H
              exact absurd H (by simp)
          · rw [if_neg c12] at H
            have c12b0 : decide (x12_1 < (l0.length : Int)) = false := decide_eq_false c12
            clear c12
            by_cases c17 : x11_1.length < 17592186044416
            · rw [if_pos c17] at H
              have LMc17 := Aside0.mk c17
              clear c17
              obtain ⟨y137, hy137⟩ : ∃ y_ : List Int, y_ = (x11_1 ++ [0]) := ⟨_, rfl⟩
              replace H : (plaitinglaw12_SyncHolds.l0 k1 l0 l1 l2 t131 (wrap64 (4 + t130)) y137 (wrap64 (x12_1 + 1))) = some r := by first | (rw [hy137]; with_reducible exact H) | (have H2_ := (Option.bind_some _ _).symm.trans H; rw [hy137]; with_reducible exact H2_) | (have H2_ := (Option.bind_some _ _).symm.trans H; with_reducible exact H2_) | with_reducible exact H | (rw [hy137]; exact H) | exact H
              have Ny137 := Aside0.mk hy137
              clear hy137
              have H' := Aside0.mk H
              clear H
              go_wp2_with (first | ((with_reducible refine gate_builtin (b := .append) (xs := #[.tmp 41, .tmp 43]) rfl ?_); at_builtin; refine Kd.R_append (Kd.int .i64) (w0 := w) w.heap.size rfl (.tmp 41) (.tmp 43) 22 3 (.int .i64 0) 8 rfl Try.underlying22 info3 rfl (by decide) (by omega) u11 x11_1 0 [.int .i64 0] (fun _ => True) (fun _ => False) rfl rfl ?aP (fun _ hk => hk.elim) ?aF ?aO ?aB ?aS ?aL ?_; (case aP => exact rfl); (case aB => exact (by repeat (first | (with_reducible first | exact HB.out | apply below_alloc | apply pw_below_drewN | apply below_drew1) | exact HB.out))); (case aF => exact (fun _ _ => trivial)); (case aO => exact (by (with_reducible repeat (first | apply Kd.R_alloc | apply Kd.R_drewN | apply Kd.R_drew)); exact HO_11.out)); (case aS => exact (below_size (by repeat (first | (with_reducible first | exact HB.out | apply below_alloc | apply pw_below_drewN | apply below_drew1) | exact HB.out)))); (case aL => have := LMc17.out; omega); intro v138 w18 ho hb hg hat; rw [← Ny137.out] at ho; have n0_ := Aside0.mk (hb); have n1_ := Aside0.mk (ho); clear HB; clear HO_11; have HB := n0_; have HO139 := n1_; clear n0_ n1_; clear ho hb hg hat))
              go_roundg k1
              case measure => have := HK1.out; omega
              case rel => exact ⟨(y137), (wrap64 (x12_1 + 1)), (by first | rfl | (simp; done) | (simp [*]; done)), H', ⟨by have := HK1.out; omega⟩, ⟨by (with_reducible repeat (first | apply Kd.R_alloc | apply Kd.R_drewN | apply Kd.R_drew)); exact HO139.out⟩, ⟨by repeat (first | (with_reducible first | exact HB.out | apply below_alloc | apply pw_below_drewN | apply below_drew1) | exact HB.out)⟩⟩
            · rw [if_neg c17] at H
              exact absurd H (by simp)
        · rw [if_neg c11] at H
          have c11b0 : decide (x12_1 < (wrap64 (4 + t130))) = false := decide_eq_false c11
          clear c11
          have H' := Aside0.mk H
          clear H
          go_wp2
          go_loopg [14, 15] k1 (fun kq v14 v15 w' => ∃ (x14_2 : List Int) (x15_2 : Int), v15 = .int .i64 x15_2 ∧ Aside0 (plaitinglaw12_SyncHolds.l1 kq l1 l2 t131 (wrap64 (4 + t130)) x11_1 x14_2 x15_2 = some r) ∧ Aside0 (kq ≤ k1) ∧ Aside0 (Kd.R (Kd.int .i64) 3 w' w.heap.size (fun k_ => some k_ ≠ (v14 : Value).ownBlock) u11 x11_1) ∧ Aside0 (Kd.R (Kd.int .i64) 3 w' w.heap.size (fun k_ => some k_ ≠ (u11 : Value).ownBlock) v14 x14_2) ∧ Aside0 (Below w.heap.size w w'))
          case atStart => exact ⟨(([] : List Int)), (0), (by first | rfl | (simp; done) | (simp [*]; done)), H', ⟨Nat.le_refl _⟩, ⟨by (with_reducible repeat (first | apply Kd.R_alloc | apply Kd.R_drewN | apply Kd.R_drew)); exact Kd.R_mono HO_11.out (fun _ hk => (by simp [Value.ownBlock]))⟩, ⟨by first | exact Kd.R_nil _ _ _ _ _ | exact Kd.N_nil _ _ _ _ _ | exact Kd.V_nil _ _ _ _ _ | exact Kd.Q_nil _ _ _ _ _ | exact Kd.S_nil _ _ _ _ _⟩, ⟨by repeat (first | (with_reducible first | exact HB.out | apply below_alloc | apply pw_below_drewN | apply below_drew1) | exact HB.out)⟩⟩
          case round =>
            clear H'
            try clear c1
            try clear p1
            try clear q1
            try clear hx1
            try clear c2
            try clear p2
            try clear p6
            try clear c7
            try clear c9
            try clear c11
            try clear c11b0
            try clear c12
            try clear c12b0
            try clear c13
            try clear c13b0
            try clear p13
            try clear q13
            try clear hx13
            try clear c15
            try clear c17
            try clear hx132_0
            try clear p132
            try clear p2
            try clear p6
            try clear q132
            obtain ⟨x14_2, x15_2, rfl, HA, HK2, HO_11, HO_14, HB⟩ := hrel
            cases gk with
            | zero => exact absurd HA.out (by simp [plaitinglaw12_SyncHolds.l1])
            | succ k2 =>
              have H := HA.out
              clear HA
              simp only [plaitinglaw12_SyncHolds.l1] at H
              by_cases c19 : x15_2 < (wrap64 (4 + t130))
              · rw [if_pos c19] at H
                have c19b0 : decide (x15_2 < (wrap64 (4 + t130))) = true := decide_eq_true c19
                clear c19
                have H' := Aside0.mk H
                clear H
                go_wp2
                go_loopg [16, 17] k2 (fun kq v16 v17 w' => ∃ (x16_3 : List (S35)) (x17_3 : Int), v17 = .int .i64 x17_3 ∧ Aside0 (plaitinglaw12_SyncHolds.l2 kq l1 l2 t131 (wrap64 (4 + t130)) x11_1 x14_2 x15_2 x16_3 x17_3 = some r) ∧ Aside0 (kq ≤ k2) ∧ Aside0 (Kd.R (Kd.int .i64) 3 w' w.heap.size (fun k_ => some k_ ≠ (u14 : Value).ownBlock) u11 x11_1) ∧ Aside0 (Kd.R (Kd.int .i64) 3 w' w.heap.size (fun k_ => some k_ ≠ (u11 : Value).ownBlock) u14 x14_2) ∧ Aside0 (Kd.R k35 35 w' w.heap.size (fun _ => True) v16 x16_3) ∧ Aside0 (Below w.heap.size w w'))
                case atStart => exact ⟨(([] : List (S35))), (0), (by first | rfl | (simp; done) | (simp [*]; done)), H', ⟨Nat.le_refl _⟩, ⟨by (with_reducible repeat (first | apply Kd.R_alloc | apply Kd.R_drewN | apply Kd.R_drew)); exact HO_11.out⟩, ⟨by (with_reducible repeat (first | apply Kd.R_alloc | apply Kd.R_drewN | apply Kd.R_drew)); exact HO_14.out⟩, ⟨by first | exact Kd.R_nil _ _ _ _ _ | exact Kd.N_nil _ _ _ _ _ | exact Kd.V_nil _ _ _ _ _ | exact Kd.Q_nil _ _ _ _ _ | exact Kd.S_nil _ _ _ _ _⟩, ⟨by repeat (first | (with_reducible first | exact HB.out | apply below_alloc | apply pw_below_drewN | apply below_drew1) | exact HB.out)⟩⟩
                case round =>
                  clear H'
                  try clear c1
                  try clear p1
                  try clear q1
                  try clear hx1
                  try clear c2
                  try clear p2
                  try clear p6
                  try clear c7
                  try clear c9
                  try clear c11
                  try clear c11b0
                  try clear c12
                  try clear c12b0
                  try clear c13
                  try clear c13b0
                  try clear p13
                  try clear q13
                  try clear hx13
                  try clear c15
                  try clear c17
                  try clear c19
                  try clear c19b0
                  try clear hx132_0
                  try clear p1
                  try clear p13
                  try clear p132
                  try clear p2
                  try clear p6
                  try clear q1
                  try clear q13
                  try clear q132
                  obtain ⟨x16_3, x17_3, rfl, HA, HK3, HO_11, HO_14, HO_16, HB⟩ := hrel
                  cases gk with
                  | zero => exact absurd HA.out (by simp [plaitinglaw12_SyncHolds.l2])
                  | succ k3 =>
                    have H := HA.out
                    clear HA
                    simp only [plaitinglaw12_SyncHolds.l2] at H
                    by_cases c20 : x17_3 < (wrap64 (4 + t130))
                    · rw [if_pos c20] at H
                      have c20b0 : decide (x17_3 < (wrap64 (4 + t130))) = true := decide_eq_true c20
                      clear c20
                      by_cases c21 : x17_3 = x15_2
                      · rw [if_pos c21] at H
                        have c21b0 : (x17_3 == x15_2) = true := beq_iff_eq.mpr c21
                        have c21b1 : (x17_3 != x15_2) = false := bne_eq_false_iff_eq.mpr c21
                        clear c21
                        have H' := Aside0.mk H
                        clear H
                        go_wp2
                        go_roundg k3
                        case measure => have := HK1.out; have := HK2.out; have := HK3.out; omega
                        case rel => exact ⟨(x16_3), (wrap64 (x17_3 + 1)), (by first | rfl | (simp; done) | (simp [*]; done)), H', ⟨by have := HK1.out; have := HK2.out; have := HK3.out; omega⟩, ⟨by (with_reducible repeat (first | apply Kd.R_alloc | apply Kd.R_drewN | apply Kd.R_drew)); exact HO_11.out⟩, ⟨by (with_reducible repeat (first | apply Kd.R_alloc | apply Kd.R_drewN | apply Kd.R_drew)); exact HO_14.out⟩, ⟨by (with_reducible repeat (first | apply Kd.R_alloc | apply Kd.R_drewN | apply Kd.R_drew)); exact HO_16.out⟩, ⟨by repeat (first | (with_reducible first | exact HB.out | apply below_alloc | apply pw_below_drewN | apply below_drew1) | exact HB.out)⟩⟩
                      · rw [if_neg c21] at H
                        have c21b0 : (x17_3 == x15_2) = false := beq_eq_false_iff_ne.mpr c21
                        have c21b1 : (x17_3 != x15_2) = true := bne_iff_ne.mpr c21
                        by_cases c22 : 0 ≤ x17_3
                        · rw [if_pos c22] at H
                          have c22b0 : decide (0 ≤ x17_3) = true := decide_eq_true c22
                          clear c22
                          by_cases c23 : x17_3 < (x11_1.length : Int)
                          · rw [if_pos c23] at H
                            have c23b0 : decide (x17_3 < (x11_1.length : Int)) = true := decide_eq_true c23
                            clear c23
                            by_cases c24 : 0 ≤ x15_2
                            · rw [if_pos c24] at H
                              have c24b0 : decide (0 ≤ x15_2) = true := decide_eq_true c24
                              clear c24
                              by_cases c25 : x15_2 < (x11_1.length : Int)
                              · rw [if_pos c25] at H
                                have c25b0 : decide (x15_2 < (x11_1.length : Int)) = true := decide_eq_true c25
                                clear c25
                                by_cases c26 : (l1.length : Int) > 0
                                · rw [if_pos c26] at H
                                  have c26b0 : decide (0 < (l1.length : Int)) = true := decide_eq_true c26
                                  have c26b1 : decide (0 < l1.length) = true := decide_eq_true (by omega)
                                  clear c26
                                  by_cases c27 : (l1.length : Int) = 0
                                  · rw [if_pos c27] at H
                                    exact absurd H (by simp)
                                  · rw [if_neg c27] at H
                                    have c27b0 : ((l1.length : Int) == 0) = false := beq_eq_false_iff_ne.mpr c27
                                    have c27b1 : ((l1.length : Int) != 0) = true := bne_iff_ne.mpr c27
                                    have c27b2 : ¬ (l1 = []) := fun h_ => c27 (by rw [h_]; rfl)
                                    obtain ⟨ji28, hji28⟩ : ∃ j_ : Int, (Int.tmod (wrap64 ((wrap64 (7 * x15_2)) + x17_3)) (l1.length : Int)) = j_ := ⟨_, rfl⟩
                                    replace H : (if 0 ≤ (ji28) then (if (ji28) < (l1.length : Int) then ((plaitinglaw12_within.f (rd l1 (ji28)) (wrap64 ((wrap64 (2 * t131)) + 1))).bind fun t145 => (if x16_3.length < 5864062014805 then (plaitinglaw12_SyncHolds.l2 k3 l1 l2 t131 (wrap64 (4 + t130)) x11_1 x14_2 x15_2 (x16_3 ++ [(⟨x17_3, 3, wrap64 ((wrap64 ((wrap64 ((rd x11_1 x17_3) - (rd x11_1 x15_2))) + t145)) - t131)⟩ : S35)]) (wrap64 (x17_3 + 1))) else (none))) else (none)) else (none)) = some r := by first | (rw [hji28] at H; exact H) | (simp only [hji28] at H ⊢; exact H)
                                    by_cases c29 : 0 ≤ (ji28)
                                    · rw [if_pos c29] at H
                                      have c29b0 : decide (0 ≤ (ji28)) = true := decide_eq_true c29
                                      clear c29
                                      by_cases c30 : (ji28) < (l1.length : Int)
                                      · rw [if_pos c30] at H
                                        have c30b0 : decide ((ji28) < (l1.length : Int)) = true := decide_eq_true c30
                                        clear c30
                                        replace H := Option.bind_eq_some_iff.mp H
                                        obtain ⟨t145, A310, H⟩ := H
                                        replace H : (if x16_3.length < 5864062014805 then (plaitinglaw12_SyncHolds.l2 k3 l1 l2 t131 (wrap64 (4 + t130)) x11_1 x14_2 x15_2 (x16_3 ++ [(⟨x17_3, 3, wrap64 ((wrap64 ((wrap64 ((rd x11_1 x17_3) - (rd x11_1 x15_2))) + t145)) - t131)⟩ : S35)]) (wrap64 (x17_3 + 1))) else (none)) = some r := H
                                        have A31 := Aside0.mk A310
                                        clear A310
                                        by_cases c32 : x16_3.length < 5864062014805
                                        · rw [if_pos c32] at H
                                          have LMc32 := Aside0.mk c32
                                          clear c32
                                          obtain ⟨y146, hy146⟩ : ∃ y_ : List (S35), y_ = (x16_3 ++ [(⟨x17_3, 3, wrap64 ((wrap64 ((wrap64 ((rd x11_1 x17_3) - (rd x11_1 x15_2))) + t145)) - t131)⟩ : S35)]) := ⟨_, rfl⟩
                                          replace H : (plaitinglaw12_SyncHolds.l2 k3 l1 l2 t131 (wrap64 (4 + t130)) x11_1 x14_2 x15_2 y146 (wrap64 (x17_3 + 1))) = some r := by first | (rw [hy146]; with_reducible exact H) | (have H2_ := (Option.bind_some _ _).symm.trans H; rw [hy146]; with_reducible exact H2_) | (have H2_ := (Option.bind_some _ _).symm.trans H; with_reducible exact H2_) | with_reducible exact H | (rw [hy146]; exact H) | exact H
                                          have Ny146 := Aside0.mk hy146
                                          clear hy146
                                          have H' := Aside0.mk H
                                          clear H
                                          try go_wp2
                                          have n0_ := Aside0.mk (Kd.R_drew HO_11.out)
                                          have n1_ := Aside0.mk (Kd.R_drew HO_14.out)
                                          have n2_ := Aside0.mk (Kd.R_drew HO_16.out)
                                          have n3_ := Aside0.mk (below_drew1 HB.out)
                                          clear HO_11
                                          clear HO_14
                                          clear HO_16
                                          clear HB
                                          have HO_11 := n0_
                                          have HO_14 := n1_
                                          have HO_16 := n2_
                                          have HB := n3_
                                          clear n0_ n1_ n2_ n3_
                                          obtain ⟨Ao34, co34, eo34⟩ := Kd.R_slice HO_11.out
                                          (first | subst eo34 | (injection eo34 with f1_ f2_ f3_; have f4_ := f1_.symm; have f5_ := f3_.symm; clear f1_ f2_ f3_; subst f4_; subst f5_))
                                          have p142 : 0 ≤ (x17_3 : Int) := of_decide_eq_true (by first | (with_reducible assumption) | assumption)
                                          have q142 : x17_3 < (x11_1.length : Int) := of_decide_eq_true (by first | (with_reducible assumption) | assumption)
                                          obtain ⟨ad142, e142, hx142_0⟩ := Kd.at_int (Kd.R_reads' HO_11.out).2.2 x17_3 p142 q142
                                          cases e142
                                          replace p142 := eq_true p142
                                          replace q142 := eq_true q142
                                          have p143 : 0 ≤ (x15_2 : Int) := of_decide_eq_true (by first | (with_reducible assumption) | assumption)
                                          have q143 : x15_2 < (x11_1.length : Int) := of_decide_eq_true (by first | (with_reducible assumption) | assumption)
                                          obtain ⟨ad143, e143, hx143_0⟩ := Kd.at_int (Kd.R_reads' HO_11.out).2.2 x15_2 p143 q143
                                          obtain rfl : ad142 = ad143 := (by injection e143)
                                          replace p143 := eq_true p143
                                          replace q143 := eq_true q143
                                          refine start_ (n := 10) (S := fun w' => w'.cell? (ad142.add (x17_3).toNat) = some (.int .i64 (rd x11_1 x17_3)) ∧ w'.cell? (ad142.add (x15_2).toNat) = some (.int .i64 (rd x11_1 x15_2))) (ds := []) #[false, false, false, false, false, false, false, false, false, false] (by kernel_rfl) rfl rfl ⟨hx142_0, hx143_0⟩ (fun hHeld => ?_); refine with_tabW plaitinglaw12_SyncHolds.tab21 plaitinglaw12_SyncHolds.bits21 (fun HT_ HW_ => ?_)
                                          generalize wr.drew = w33 at HO_11 HO_14 HO_16 HB hx142_0 hx143_0 hHeld ⊢
                                          refine pure_ (i := 0) (N := some 58) (v := ?_) (a' := ?_) #[true, false, false, false, false, false, false, false, false, false] rfl rfl (any_of HT_.out (by kernel_rfl)) (fun _ _ _ h => h) (Or.inl ⟨by rfl, ?_⟩) ?_ ?_
                                          rotate_left
                                          · intro w'
                                            go_simp
                                            with_reducible rfl
                                          rotate_left
                                          · simp only [Act.put, List.setIfInBounds_toArray, List.set_cons_zero, List.set_cons_succ, i64_w, i32_w]
                                            rfl
                                          refine pure_ (i := 1) (N := some 59) (v := ?_) (a' := ?_) #[true, true, false, false, false, false, false, false, false, false] rfl rfl (any_of HT_.out (by kernel_rfl)) (fun _ _ _ h => h) (Or.inl ⟨by rfl, ?_⟩) ?_ ?_
                                          rotate_left
                                          · intro w'
                                            go_simp
                                            with_reducible rfl
                                          rotate_left
                                          · simp only [Act.put, List.setIfInBounds_toArray, List.set_cons_zero, List.set_cons_succ, i64_w, i32_w]
                                            rfl
                                          refine pure_ (i := 2) (N := some 60) (v := ?_) (a' := ?_) #[true, true, true, false, false, false, false, false, false, false] rfl rfl (any_of HT_.out (by kernel_rfl)) (fun _ _ _ h => h) (Or.inl ⟨by rfl, ?_⟩) ?_ ?_
                                          rotate_left
                                          · intro w'
                                            go_simp
                                            with_reducible rfl
                                          rotate_left
                                          · simp only [Act.put, List.setIfInBounds_toArray, List.set_cons_zero, List.set_cons_succ, i64_w, i32_w]
                                            rfl
                                          refine pure_ (i := 4) (N := some 62) (v := ?_) (a' := ?_) #[true, true, true, false, true, false, false, false, false, false] rfl rfl (any_of HT_.out (by kernel_rfl)) (fun _ _ _ h => h) (Or.inl ⟨by rfl, ?_⟩) ?_ ?_
                                          rotate_left
                                          · intro w'
                                            go_simp
                                            with_reducible rfl
                                          rotate_left
                                          · simp only [Act.put, List.setIfInBounds_toArray, List.set_cons_zero, List.set_cons_succ, i64_w, i32_w]
                                            rfl
                                          refine pure_ (i := 5) (N := some 63) (v := ?_) (a' := ?_) #[true, true, true, false, true, true, false, false, false, false] rfl rfl (any_of HT_.out (by kernel_rfl)) (fun _ _ _ h => h) (Or.inl ⟨by rfl, ?_⟩) ?_ ?_
                                          rotate_left
                                          · intro w'
                                            go_simp
                                            with_reducible rfl
                                          rotate_left
                                          · simp only [Act.put, List.setIfInBounds_toArray, List.set_cons_zero, List.set_cons_succ, i64_w, i32_w]
                                            rfl
                                          refine pure_ (i := 6) (N := some 64) (v := ?_) (a' := ?_) #[true, true, true, false, true, true, true, false, false, false] rfl rfl (any_of HT_.out (by kernel_rfl)) (fun _ _ _ h => h) (Or.inl ⟨by rfl, ?_⟩) ?_ ?_
                                          rotate_left
                                          · intro w'
                                            go_simp
                                            with_reducible rfl
                                          rotate_left
                                          · simp only [Act.put, List.setIfInBounds_toArray, List.set_cons_zero, List.set_cons_succ, i64_w, i32_w]
                                            rfl
                                          refine take_ (i := 3) (N := some 61) (v := ?_) (a' := ?_) #[true, true, true, true, true, true, true, false, false, false] rfl rfl (take_ofW HT_.out HW_.out (by kernel_rfl)) (fun _ _ _ h => h) (Or.inl ⟨by rfl, ?_⟩) hHeld ?_ ?_
                                          rotate_left
                                          · rintro w' ⟨s0, s1⟩
                                            go_simp
                                            with_reducible rfl
                                          rotate_left
                                          · simp only [Act.put, List.setIfInBounds_toArray, List.set_cons_zero, List.set_cons_succ, i64_w, i32_w]
                                            rfl
                                          refine take_ (i := 7) (N := some 65) (v := ?_) (a' := ?_) #[true, true, true, true, true, true, true, true, false, false] rfl rfl (take_ofW HT_.out HW_.out (by kernel_rfl)) (fun _ _ _ h => h) (Or.inl ⟨by rfl, ?_⟩) hHeld ?_ ?_
                                          rotate_left
                                          · rintro w' ⟨s0, s1⟩
                                            go_simp
                                            with_reducible rfl
                                          rotate_left
                                          · simp only [Act.put, List.setIfInBounds_toArray, List.set_cons_zero, List.set_cons_succ, i64_w, i32_w]
                                            rfl
                                          refine pure_ (i := 8) (N := some 66) (v := ?_) (a' := ?_) #[true, true, true, true, true, true, true, true, true, false] rfl rfl (any_of HT_.out (by kernel_rfl)) (fun _ _ _ h => h) (Or.inl ⟨by rfl, ?_⟩) ?_ ?_
                                          rotate_left
                                          · intro w'
                                            go_simp
                                            with_reducible rfl
                                          rotate_left
                                          · simp only [Act.put, List.setIfInBounds_toArray, List.set_cons_zero, List.set_cons_succ, i64_w, i32_w]
                                            rfl
                                          refine pure_ (i := 9) (N := some 18) (v := ?_) (a' := ?_) #[true, true, true, true, true, true, true, true, true, true] rfl rfl (any_of HT_.out (by kernel_rfl)) (fun _ _ _ h => h) (Or.inl ⟨by rfl, ?_⟩) ?_ ?_
                                          rotate_left
                                          · intro w'
                                            go_simp
                                            with_reducible rfl
                                          rotate_left
                                          · simp only [Act.put, List.setIfInBounds_toArray, List.set_cons_zero, List.set_cons_succ, i64_w, i32_w]
                                            rfl
                                          refine done_ (done_of HT_.out (by kernel_rfl)) ?_
                                          have p144 : 0 ≤ ((ji28) : Int) := of_decide_eq_true (by first | (with_reducible assumption) | assumption)
                                          have q144 : (ji28) < (l1.length : Int) := of_decide_eq_true (by first | (with_reducible assumption) | assumption)
                                          obtain ⟨ad144, e144, hx144_0⟩ := Kd.at_int HR1.out (ji28) p144 q144
                                          cases e144
                                          replace hx144_0 := (HB.out.cell (World.block_lt_of_cell? w _ hx144_0)).trans hx144_0
                                          replace p144 := eq_true p144
                                          replace q144 := eq_true q144
                                          try go_wp2_with (first | ((with_reducible refine gate_callee (f := 20) rfl ?_); refine goesL_ (some 84) rfl rfl Try.func20 (by kernel_rfl) rfl #[.int .i64 (rd l1 (ji28)), .int .i64 (wrap64 ((wrap64 (2 * t131)) + 1))] rfl (by (try simp only [List.map_toArray, List.map_cons, List.map_nil]); first | done | (simp only [hji28]; rfl) | rfl | (simp only [List.length_drop, List.length_take]; rfl)) ?_; (with_reducible refine (plaitinglaw12_within.calls (rd l1 (ji28)) (wrap64 ((wrap64 (2 * t131)) + 1)) t145 _ A31.out).mono ?_); rintro e w' ⟨rfl, ⟨nd, rfl⟩⟩; refine ⟨_, rfl, ?_⟩) | ((with_reducible refine gate_builtin (b := .append) (xs := #[.tmp 88, .tmp 92]) rfl ?_); at_builtin; refine Kd.R_append k35 (w0 := w) w.heap.size rfl (.tmp 88) (.tmp 92) 33 35 (.agg #[(.int .i64 0), (.int .i64 0), (.int .i64 0)]) 24 rfl Try.underlying33 info35 rfl (by decide) (by omega) u16 x16_3 (⟨x17_3, 3, wrap64 ((wrap64 ((wrap64 ((rd x11_1 x17_3) - (rd x11_1 x15_2))) + t145)) - t131)⟩ : S35) [.int .i64 x17_3, .int .i64 3, .int .i64 (wrap64 ((wrap64 ((wrap64 ((rd x11_1 x17_3) - (rd x11_1 x15_2))) + t145)) - t131))] (fun _ => True) (fun _ => False) rfl rfl ?aP (fun _ hk => hk.elim) ?aF ?aO ?aB ?aS ?aL ?_; (case aP => exact k35_mkM _ _ _ (⟨x17_3, 3, wrap64 ((wrap64 ((wrap64 ((rd x11_1 x17_3) - (rd x11_1 x15_2))) + t145)) - t131)⟩ : S35)); (case aB => exact (by repeat (first | (with_reducible first | exact HB.out | apply below_alloc | apply pw_below_drewN | apply below_drew1) | exact HB.out))); (case aF => exact (fun _ _ => trivial)); (case aO => exact (by (with_reducible repeat (first | apply Kd.R_alloc | apply Kd.R_drewN | apply Kd.R_drew)); exact HO_16.out)); (case aS => exact (below_size (by repeat (first | (with_reducible first | exact HB.out | apply below_alloc | apply pw_below_drewN | apply below_drew1) | exact HB.out)))); (case aL => have := LMc32.out; omega); intro v147 w35 ho hb hg hat; rw [← Ny146.out] at ho; have n0_ := Aside0.mk (Kd.R_over' (by (with_reducible repeat (first | apply Kd.R_alloc | apply Kd.R_drewN | apply Kd.R_drew)); exact HO_11.out) (Kd.R_typed (by (with_reducible repeat (first | apply Kd.R_alloc | apply Kd.R_drewN | apply Kd.R_drew)); exact HO_16.out)) (by decide) hg); have n1_ := Aside0.mk (Kd.R_over' (by (with_reducible repeat (first | apply Kd.R_alloc | apply Kd.R_drewN | apply Kd.R_drew)); exact HO_14.out) (Kd.R_typed (by (with_reducible repeat (first | apply Kd.R_alloc | apply Kd.R_drewN | apply Kd.R_drew)); exact HO_16.out)) (by decide) hg); have n2_ := Aside0.mk (hb); have n3_ := Aside0.mk (ho); clear HO_11; clear HO_14; clear HB; clear HO_16; have HO_11 := n0_; have HO_14 := n1_; have HB := n2_; have HO148 := n3_; clear n0_ n1_ n2_ n3_; clear ho hb hg hat))
                                          go_roundg k3
                                          case measure => have := HK1.out; have := HK2.out; have := HK3.out; omega
                                          case rel => exact ⟨(y146), (wrap64 (x17_3 + 1)), (by first | rfl | (simp; done) | (simp [*]; done)), H', ⟨by have := HK1.out; have := HK2.out; have := HK3.out; omega⟩, ⟨by (with_reducible repeat (first | apply Kd.R_alloc | apply Kd.R_drewN | apply Kd.R_drew)); exact HO_11.out⟩, ⟨by (with_reducible repeat (first | apply Kd.R_alloc | apply Kd.R_drewN | apply Kd.R_drew)); exact HO_14.out⟩, ⟨by (with_reducible repeat (first | apply Kd.R_alloc | apply Kd.R_drewN | apply Kd.R_drew)); exact HO148.out⟩, ⟨by repeat (first | (with_reducible first | exact HB.out | apply below_alloc | apply pw_below_drewN | apply below_drew1) | exact HB.out)⟩⟩
                                        · rw [if_neg c32] at H
                                          exact absurd H (by simp)
                                      · rw [if_neg c30] at H
                                        exact absurd H (by simp)
                                    · rw [if_neg c29] at H
                                      exact absurd H (by simp)
                                · rw [if_neg c26] at H
                                  have c26b0 : decide (0 < (l1.length : Int)) = false := decide_eq_false c26
                                  have c26b1 : decide (0 < l1.length) = false := decide_eq_false (by omega)
                                  clear c26
                                  by_cases c36 : x16_3.length < 5864062014805
                                  · rw [if_pos c36] at H
                                    have LMc36 := Aside0.mk c36
                                    clear c36
                                    obtain ⟨y149, hy149⟩ : ∃ y_ : List (S35), y_ = (x16_3 ++ [(⟨x17_3, 3, wrap64 ((rd x11_1 x17_3) - (rd x11_1 x15_2))⟩ : S35)]) := ⟨_, rfl⟩
                                    replace H : (plaitinglaw12_SyncHolds.l2 k3 l1 l2 t131 (wrap64 (4 + t130)) x11_1 x14_2 x15_2 y149 (wrap64 (x17_3 + 1))) = some r := by first | (rw [hy149]; with_reducible exact H) | (have H2_ := (Option.bind_some _ _).symm.trans H; rw [hy149]; with_reducible exact H2_) | (have H2_ := (Option.bind_some _ _).symm.trans H; with_reducible exact H2_) | with_reducible exact H | (rw [hy149]; exact H) | exact H
                                    have Ny149 := Aside0.mk hy149
                                    clear hy149
                                    have H' := Aside0.mk H
                                    clear H
                                    try go_wp2
                                    have n0_ := Aside0.mk (Kd.R_drew HO_11.out)
                                    have n1_ := Aside0.mk (Kd.R_drew HO_14.out)
                                    have n2_ := Aside0.mk (Kd.R_drew HO_16.out)
                                    have n3_ := Aside0.mk (below_drew1 HB.out)
                                    clear HO_11
                                    clear HO_14
                                    clear HO_16
                                    clear HB
                                    have HO_11 := n0_
                                    have HO_14 := n1_
                                    have HO_16 := n2_
                                    have HB := n3_
                                    clear n0_ n1_ n2_ n3_
                                    obtain ⟨Ao38, co38, eo38⟩ := Kd.R_slice HO_11.out
                                    (first | subst eo38 | (injection eo38 with f1_ f2_ f3_; have f4_ := f1_.symm; have f5_ := f3_.symm; clear f1_ f2_ f3_; subst f4_; subst f5_))
                                    have p142 : 0 ≤ (x17_3 : Int) := of_decide_eq_true (by first | (with_reducible assumption) | assumption)
                                    have q142 : x17_3 < (x11_1.length : Int) := of_decide_eq_true (by first | (with_reducible assumption) | assumption)
                                    obtain ⟨ad142, e142, hx142_0⟩ := Kd.at_int (Kd.R_reads' HO_11.out).2.2 x17_3 p142 q142
                                    cases e142
                                    replace p142 := eq_true p142
                                    replace q142 := eq_true q142
                                    have p143 : 0 ≤ (x15_2 : Int) := of_decide_eq_true (by first | (with_reducible assumption) | assumption)
                                    have q143 : x15_2 < (x11_1.length : Int) := of_decide_eq_true (by first | (with_reducible assumption) | assumption)
                                    obtain ⟨ad143, e143, hx143_0⟩ := Kd.at_int (Kd.R_reads' HO_11.out).2.2 x15_2 p143 q143
                                    obtain rfl : ad142 = ad143 := (by injection e143)
                                    replace p143 := eq_true p143
                                    replace q143 := eq_true q143
                                    refine start_ (n := 10) (S := fun w' => w'.cell? (ad142.add (x17_3).toNat) = some (.int .i64 (rd x11_1 x17_3)) ∧ w'.cell? (ad142.add (x15_2).toNat) = some (.int .i64 (rd x11_1 x15_2))) (ds := []) #[false, false, false, false, false, false, false, false, false, false] (by kernel_rfl) rfl rfl ⟨hx142_0, hx143_0⟩ (fun hHeld => ?_); refine with_tabW plaitinglaw12_SyncHolds.tab21 plaitinglaw12_SyncHolds.bits21 (fun HT_ HW_ => ?_)
                                    generalize wr.drew = w37 at HO_11 HO_14 HO_16 HB hx142_0 hx143_0 hHeld ⊢
                                    refine pure_ (i := 0) (N := some 58) (v := ?_) (a' := ?_) #[true, false, false, false, false, false, false, false, false, false] rfl rfl (any_of HT_.out (by kernel_rfl)) (fun _ _ _ h => h) (Or.inl ⟨by rfl, ?_⟩) ?_ ?_
                                    rotate_left
                                    · intro w'
                                      go_simp
                                      with_reducible rfl
                                    rotate_left
                                    · simp only [Act.put, List.setIfInBounds_toArray, List.set_cons_zero, List.set_cons_succ, i64_w, i32_w]
                                      rfl
                                    refine pure_ (i := 1) (N := some 59) (v := ?_) (a' := ?_) #[true, true, false, false, false, false, false, false, false, false] rfl rfl (any_of HT_.out (by kernel_rfl)) (fun _ _ _ h => h) (Or.inl ⟨by rfl, ?_⟩) ?_ ?_
                                    rotate_left
                                    · intro w'
                                      go_simp
                                      with_reducible rfl
                                    rotate_left
                                    · simp only [Act.put, List.setIfInBounds_toArray, List.set_cons_zero, List.set_cons_succ, i64_w, i32_w]
                                      rfl
                                    refine pure_ (i := 2) (N := some 60) (v := ?_) (a' := ?_) #[true, true, true, false, false, false, false, false, false, false] rfl rfl (any_of HT_.out (by kernel_rfl)) (fun _ _ _ h => h) (Or.inl ⟨by rfl, ?_⟩) ?_ ?_
                                    rotate_left
                                    · intro w'
                                      go_simp
                                      with_reducible rfl
                                    rotate_left
                                    · simp only [Act.put, List.setIfInBounds_toArray, List.set_cons_zero, List.set_cons_succ, i64_w, i32_w]
                                      rfl
                                    refine pure_ (i := 4) (N := some 62) (v := ?_) (a' := ?_) #[true, true, true, false, true, false, false, false, false, false] rfl rfl (any_of HT_.out (by kernel_rfl)) (fun _ _ _ h => h) (Or.inl ⟨by rfl, ?_⟩) ?_ ?_
                                    rotate_left
                                    · intro w'
                                      go_simp
                                      with_reducible rfl
                                    rotate_left
                                    · simp only [Act.put, List.setIfInBounds_toArray, List.set_cons_zero, List.set_cons_succ, i64_w, i32_w]
                                      rfl
                                    refine pure_ (i := 5) (N := some 63) (v := ?_) (a' := ?_) #[true, true, true, false, true, true, false, false, false, false] rfl rfl (any_of HT_.out (by kernel_rfl)) (fun _ _ _ h => h) (Or.inl ⟨by rfl, ?_⟩) ?_ ?_
                                    rotate_left
                                    · intro w'
                                      go_simp
                                      with_reducible rfl
                                    rotate_left
                                    · simp only [Act.put, List.setIfInBounds_toArray, List.set_cons_zero, List.set_cons_succ, i64_w, i32_w]
                                      rfl
                                    refine pure_ (i := 6) (N := some 64) (v := ?_) (a' := ?_) #[true, true, true, false, true, true, true, false, false, false] rfl rfl (any_of HT_.out (by kernel_rfl)) (fun _ _ _ h => h) (Or.inl ⟨by rfl, ?_⟩) ?_ ?_
                                    rotate_left
                                    · intro w'
                                      go_simp
                                      with_reducible rfl
                                    rotate_left
                                    · simp only [Act.put, List.setIfInBounds_toArray, List.set_cons_zero, List.set_cons_succ, i64_w, i32_w]
                                      rfl
                                    refine take_ (i := 3) (N := some 61) (v := ?_) (a' := ?_) #[true, true, true, true, true, true, true, false, false, false] rfl rfl (take_ofW HT_.out HW_.out (by kernel_rfl)) (fun _ _ _ h => h) (Or.inl ⟨by rfl, ?_⟩) hHeld ?_ ?_
                                    rotate_left
                                    · rintro w' ⟨s0, s1⟩
                                      go_simp
                                      with_reducible rfl
                                    rotate_left
                                    · simp only [Act.put, List.setIfInBounds_toArray, List.set_cons_zero, List.set_cons_succ, i64_w, i32_w]
                                      rfl
                                    refine take_ (i := 7) (N := some 65) (v := ?_) (a' := ?_) #[true, true, true, true, true, true, true, true, false, false] rfl rfl (take_ofW HT_.out HW_.out (by kernel_rfl)) (fun _ _ _ h => h) (Or.inl ⟨by rfl, ?_⟩) hHeld ?_ ?_
                                    rotate_left
                                    · rintro w' ⟨s0, s1⟩
                                      go_simp
                                      with_reducible rfl
                                    rotate_left
                                    · simp only [Act.put, List.setIfInBounds_toArray, List.set_cons_zero, List.set_cons_succ, i64_w, i32_w]
                                      rfl
                                    refine pure_ (i := 8) (N := some 66) (v := ?_) (a' := ?_) #[true, true, true, true, true, true, true, true, true, false] rfl rfl (any_of HT_.out (by kernel_rfl)) (fun _ _ _ h => h) (Or.inl ⟨by rfl, ?_⟩) ?_ ?_
                                    rotate_left
                                    · intro w'
                                      go_simp
                                      with_reducible rfl
                                    rotate_left
                                    · simp only [Act.put, List.setIfInBounds_toArray, List.set_cons_zero, List.set_cons_succ, i64_w, i32_w]
                                      rfl
                                    refine pure_ (i := 9) (N := some 18) (v := ?_) (a' := ?_) #[true, true, true, true, true, true, true, true, true, true] rfl rfl (any_of HT_.out (by kernel_rfl)) (fun _ _ _ h => h) (Or.inl ⟨by rfl, ?_⟩) ?_ ?_
                                    rotate_left
                                    · intro w'
                                      go_simp
                                      with_reducible rfl
                                    rotate_left
                                    · simp only [Act.put, List.setIfInBounds_toArray, List.set_cons_zero, List.set_cons_succ, i64_w, i32_w]
                                      rfl
                                    refine done_ (done_of HT_.out (by kernel_rfl)) ?_
                                    try go_wp2_with (first | ((with_reducible refine gate_builtin (b := .append) (xs := #[.tmp 88, .tmp 92]) rfl ?_); at_builtin; refine Kd.R_append k35 (w0 := w) w.heap.size rfl (.tmp 88) (.tmp 92) 33 35 (.agg #[(.int .i64 0), (.int .i64 0), (.int .i64 0)]) 24 rfl Try.underlying33 info35 rfl (by decide) (by omega) u16 x16_3 (⟨x17_3, 3, wrap64 ((rd x11_1 x17_3) - (rd x11_1 x15_2))⟩ : S35) [.int .i64 x17_3, .int .i64 3, .int .i64 (wrap64 ((rd x11_1 x17_3) - (rd x11_1 x15_2)))] (fun _ => True) (fun _ => False) rfl rfl ?aP (fun _ hk => hk.elim) ?aF ?aO ?aB ?aS ?aL ?_; (case aP => exact k35_mkM _ _ _ (⟨x17_3, 3, wrap64 ((rd x11_1 x17_3) - (rd x11_1 x15_2))⟩ : S35)); (case aB => exact (by repeat (first | (with_reducible first | exact HB.out | apply below_alloc | apply pw_below_drewN | apply below_drew1) | exact HB.out))); (case aF => exact (fun _ _ => trivial)); (case aO => exact (by (with_reducible repeat (first | apply Kd.R_alloc | apply Kd.R_drewN | apply Kd.R_drew)); exact HO_16.out)); (case aS => exact (below_size (by repeat (first | (with_reducible first | exact HB.out | apply below_alloc | apply pw_below_drewN | apply below_drew1) | exact HB.out)))); (case aL => have := LMc36.out; omega); intro v150 w39 ho hb hg hat; rw [← Ny149.out] at ho; have n0_ := Aside0.mk (Kd.R_over' (by (with_reducible repeat (first | apply Kd.R_alloc | apply Kd.R_drewN | apply Kd.R_drew)); exact HO_11.out) (Kd.R_typed (by (with_reducible repeat (first | apply Kd.R_alloc | apply Kd.R_drewN | apply Kd.R_drew)); exact HO_16.out)) (by decide) hg); have n1_ := Aside0.mk (Kd.R_over' (by (with_reducible repeat (first | apply Kd.R_alloc | apply Kd.R_drewN | apply Kd.R_drew)); exact HO_14.out) (Kd.R_typed (by (with_reducible repeat (first | apply Kd.R_alloc | apply Kd.R_drewN | apply Kd.R_drew)); exact HO_16.out)) (by decide) hg); have n2_ := Aside0.mk (hb); have n3_ := Aside0.mk (ho); clear HO_11; clear HO_14; clear HB; clear HO_16; have HO_11 := n0_; have HO_14 := n1_; have HB := n2_; have HO151 := n3_; clear n0_ n1_ n2_ n3_; clear ho hb hg hat))
                                    go_roundg k3
                                    case measure => have := HK1.out; have := HK2.out; have := HK3.out; omega
                                    case rel => exact ⟨(y149), (wrap64 (x17_3 + 1)), (by first | rfl | (simp; done) | (simp [*]; done)), H', ⟨by have := HK1.out; have := HK2.out; have := HK3.out; omega⟩, ⟨by (with_reducible repeat (first | apply Kd.R_alloc | apply Kd.R_drewN | apply Kd.R_drew)); exact HO_11.out⟩, ⟨by (with_reducible repeat (first | apply Kd.R_alloc | apply Kd.R_drewN | apply Kd.R_drew)); exact HO_14.out⟩, ⟨by (with_reducible repeat (first | apply Kd.R_alloc | apply Kd.R_drewN | apply Kd.R_drew)); exact HO151.out⟩, ⟨by repeat (first | (with_reducible first | exact HB.out | apply below_alloc | apply pw_below_drewN | apply below_drew1) | exact HB.out)⟩⟩
                                  · rw [if_neg c36] at H
                                    exact absurd H (by simp)
                              · rw [if_neg c25] at H
                                exact absurd H (by simp)
                            · rw [if_neg c24] at H
                              exact absurd H (by simp)
                          · rw [if_neg c23] at H
                            exact absurd H (by simp)
                        · rw [if_neg c22] at H
                          exact absurd H (by simp)
                    · rw [if_neg c20] at H
                      have c20b0 : decide (x17_3 < (wrap64 (4 + t130))) = false := decide_eq_false c20
                      clear c20
                      by_cases c40 : (l2.length : Int) > 0
                      · rw [if_pos c40] at H
                        have c40b0 : decide (0 < (l2.length : Int)) = true := decide_eq_true c40
                        have c40b1 : decide (0 < l2.length) = true := decide_eq_true (by omega)
                        clear c40
                        by_cases c41 : (l2.length : Int) = 0
                        · rw [if_pos c41] at H
                          exact absurd H (by simp)
                        · rw [if_neg c41] at H
                          have c41b0 : ((l2.length : Int) == 0) = false := beq_eq_false_iff_ne.mpr c41
                          have c41b1 : ((l2.length : Int) != 0) = true := bne_iff_ne.mpr c41
                          have c41b2 : ¬ (l2 = []) := fun h_ => c41 (by rw [h_]; rfl)
                          obtain ⟨ji42, hji42⟩ : ∃ j_ : Int, (Int.tmod x15_2 (l2.length : Int)) = j_ := ⟨_, rfl⟩
                          replace H : (if 0 ≤ (ji42) then (if (ji42) < (l2.length : Int) then ((plaitinglaw12_within.f (rd l2 (ji42)) 20001).bind fun t153 => (if x16_3.length < 5864062014805 then (if 0 ≤ x15_2 then (if x15_2 < (x11_1.length : Int) then ((sync_Step.f 4 x15_2 (x16_3 ++ [(⟨(wrap64 (4 + t130)), 3, wrap64 (t153 - 10000)⟩ : S35)])).bind fun t158 => (if x14_2.length < 17592186044416 then (plaitinglaw12_SyncHolds.l1 k3 l1 l2 t131 (wrap64 (4 + t130)) x11_1 (x14_2 ++ [wrap64 ((rd x11_1 x15_2) + t158)]) (wrap64 (x15_2 + 1))) else (none))) else (none)) else (none)) else (none))) else (none)) else (none)) = some r := by first | (rw [hji42] at H; exact H) | (simp only [hji42] at H ⊢; exact H)
                          by_cases c43 : 0 ≤ (ji42)
                          · rw [if_pos c43] at H
                            have c43b0 : decide (0 ≤ (ji42)) = true := decide_eq_true c43
                            clear c43
                            by_cases c44 : (ji42) < (l2.length : Int)
                            · rw [if_pos c44] at H
                              have c44b0 : decide ((ji42) < (l2.length : Int)) = true := decide_eq_true c44
                              clear c44
                              replace H := Option.bind_eq_some_iff.mp H
                              obtain ⟨t153, A450, H⟩ := H
                              replace H : (if x16_3.length < 5864062014805 then (if 0 ≤ x15_2 then (if x15_2 < (x11_1.length : Int) then ((sync_Step.f 4 x15_2 (x16_3 ++ [(⟨(wrap64 (4 + t130)), 3, wrap64 (t153 - 10000)⟩ : S35)])).bind fun t158 => (if x14_2.length < 17592186044416 then (plaitinglaw12_SyncHolds.l1 k3 l1 l2 t131 (wrap64 (4 + t130)) x11_1 (x14_2 ++ [wrap64 ((rd x11_1 x15_2) + t158)]) (wrap64 (x15_2 + 1))) else (none))) else (none)) else (none)) else (none)) = some r := H
                              have A45 := Aside0.mk A450
                              clear A450
                              by_cases c46 : x16_3.length < 5864062014805
                              · rw [if_pos c46] at H
                                have LMc46 := Aside0.mk c46
                                clear c46
                                obtain ⟨y154, hy154⟩ : ∃ y_ : List (S35), y_ = (x16_3 ++ [(⟨(wrap64 (4 + t130)), 3, wrap64 (t153 - 10000)⟩ : S35)]) := ⟨_, rfl⟩
                                replace H : (if 0 ≤ x15_2 then (if x15_2 < (x11_1.length : Int) then ((sync_Step.f 4 x15_2 y154).bind fun t158 => (if x14_2.length < 17592186044416 then (plaitinglaw12_SyncHolds.l1 k3 l1 l2 t131 (wrap64 (4 + t130)) x11_1 (x14_2 ++ [wrap64 ((rd x11_1 x15_2) + t158)]) (wrap64 (x15_2 + 1))) else (none))) else (none)) else (none)) = some r := by first | (rw [hy154]; with_reducible exact H) | (have H2_ := (Option.bind_some _ _).symm.trans H; rw [hy154]; with_reducible exact H2_) | (have H2_ := (Option.bind_some _ _).symm.trans H; with_reducible exact H2_) | with_reducible exact H | (rw [hy154]; exact H) | exact H
                                have Ny154 := Aside0.mk hy154
                                clear hy154
                                by_cases c47 : 0 ≤ x15_2
                                · rw [if_pos c47] at H
                                  have c47b0 : decide (0 ≤ x15_2) = true := decide_eq_true c47
                                  clear c47
                                  by_cases c48 : x15_2 < (x11_1.length : Int)
                                  · rw [if_pos c48] at H
                                    have c48b0 : decide (x15_2 < (x11_1.length : Int)) = true := decide_eq_true c48
                                    clear c48
                                    replace H := Option.bind_eq_some_iff.mp H
                                    obtain ⟨t158, A490, H⟩ := H
                                    replace H : (if x14_2.length < 17592186044416 then (plaitinglaw12_SyncHolds.l1 k3 l1 l2 t131 (wrap64 (4 + t130)) x11_1 (x14_2 ++ [wrap64 ((rd x11_1 x15_2) + t158)]) (wrap64 (x15_2 + 1))) else (none)) = some r := H
                                    have A49 := Aside0.mk A490
                                    clear A490
                                    by_cases c50 : x14_2.length < 17592186044416
                                    · rw [if_pos c50] at H
                                      have LMc50 := Aside0.mk c50
                                      clear c50
                                      obtain ⟨y159, hy159⟩ : ∃ y_ : List Int, y_ = (x14_2 ++ [wrap64 ((rd x11_1 x15_2) + t158)]) := ⟨_, rfl⟩
                                      replace H : (plaitinglaw12_SyncHolds.l1 k3 l1 l2 t131 (wrap64 (4 + t130)) x11_1 y159 (wrap64 (x15_2 + 1))) = some r := by first | (rw [hy159]; with_reducible exact H) | (have H2_ := (Option.bind_some _ _).symm.trans H; rw [hy159]; with_reducible exact H2_) | (have H2_ := (Option.bind_some _ _).symm.trans H; with_reducible exact H2_) | with_reducible exact H | (rw [hy159]; exact H) | exact H
                                      have Ny159 := Aside0.mk hy159
                                      clear hy159
                                      have H' := Aside0.mk H
                                      clear H
                                      have p152 : 0 ≤ ((ji42) : Int) := of_decide_eq_true (by first | (with_reducible assumption) | assumption)
                                      have q152 : (ji42) < (l2.length : Int) := of_decide_eq_true (by first | (with_reducible assumption) | assumption)
                                      obtain ⟨ad152, e152, hx152_0⟩ := Kd.at_int HR2.out (ji42) p152 q152
                                      cases e152
                                      replace hx152_0 := (HB.out.cell (World.block_lt_of_cell? w _ hx152_0)).trans hx152_0
                                      replace p152 := eq_true p152
                                      replace q152 := eq_true q152
                                      try go_wp2_with (first | ((with_reducible refine gate_callee (f := 20) rfl ?_); refine goesL_ (some 106) rfl rfl Try.func20 (by kernel_rfl) rfl #[.int .i64 (rd l2 (ji42)), .int .i64 20001] rfl (by (try simp only [List.map_toArray, List.map_cons, List.map_nil]); first | done | (simp only [hji42]; rfl) | rfl | (simp only [List.length_drop, List.length_take]; rfl)) ?_; (with_reducible refine (plaitinglaw12_within.calls (rd l2 (ji42)) 20001 t153 _ A45.out).mono ?_); rintro e w' ⟨rfl, ⟨nd, rfl⟩⟩; refine ⟨_, rfl, ?_⟩) | ((with_reducible refine gate_builtin (b := .append) (xs := #[.tmp 97, .tmp 109]) rfl ?_); at_builtin; refine Kd.R_append k35 (w0 := w) w.heap.size rfl (.tmp 97) (.tmp 109) 33 35 (.agg #[(.int .i64 0), (.int .i64 0), (.int .i64 0)]) 24 rfl Try.underlying33 info35 rfl (by decide) (by omega) u16 x16_3 (⟨(wrap64 (4 + t130)), 3, wrap64 (t153 - 10000)⟩ : S35) [.int .i64 (wrap64 (4 + t130)), .int .i64 3, .int .i64 (wrap64 (t153 - 10000))] (fun _ => True) (fun _ => False) rfl rfl ?aP (fun _ hk => hk.elim) ?aF ?aO ?aB ?aS ?aL ?_; (case aP => exact k35_mkM _ _ _ (⟨(wrap64 (4 + t130)), 3, wrap64 (t153 - 10000)⟩ : S35)); (case aB => exact (by repeat (first | (with_reducible first | exact HB.out | apply below_alloc | apply pw_below_drewN | apply below_drew1) | exact HB.out))); (case aF => exact (fun _ _ => trivial)); (case aO => exact (by (with_reducible repeat (first | apply Kd.R_alloc | apply Kd.R_drewN | apply Kd.R_drew)); exact HO_16.out)); (case aS => exact (below_size (by repeat (first | (with_reducible first | exact HB.out | apply below_alloc | apply pw_below_drewN | apply below_drew1) | exact HB.out)))); (case aL => have := LMc46.out; omega); intro v155 w51 ho hb hg hat; rw [← Ny154.out] at ho; have n0_ := Aside0.mk (Kd.R_over' (by (with_reducible repeat (first | apply Kd.R_alloc | apply Kd.R_drewN | apply Kd.R_drew)); exact HO_11.out) (Kd.R_typed (by (with_reducible repeat (first | apply Kd.R_alloc | apply Kd.R_drewN | apply Kd.R_drew)); exact HO_16.out)) (by decide) hg); have n1_ := Aside0.mk (Kd.R_over' (by (with_reducible repeat (first | apply Kd.R_alloc | apply Kd.R_drewN | apply Kd.R_drew)); exact HO_14.out) (Kd.R_typed (by (with_reducible repeat (first | apply Kd.R_alloc | apply Kd.R_drewN | apply Kd.R_drew)); exact HO_16.out)) (by decide) hg); have n2_ := Aside0.mk (hb); have n3_ := Aside0.mk (ho); clear HO_11; clear HO_14; clear HB; clear HO_16; have HO_11 := n0_; have HO_14 := n1_; have HB := n2_; have HO156 := n3_; clear n0_ n1_ n2_ n3_; clear ho hb hg hat))
                                      have n0_ := Aside0.mk (Kd.R_drew HO_11.out)
                                      have n1_ := Aside0.mk (Kd.R_drew HO_14.out)
                                      have n2_ := Aside0.mk (Kd.R_drew HO156.out)
                                      have n3_ := Aside0.mk (below_drew1 HB.out)
                                      clear HO_11
                                      clear HO_14
                                      clear HO156
                                      clear HB
                                      have HO_11 := n0_
                                      have HO_14 := n1_
                                      have HO156 := n2_
                                      have HB := n3_
                                      clear n0_ n1_ n2_ n3_
                                      obtain ⟨Ao53, co53, eo53⟩ := Kd.R_slice HO_11.out
                                      (first | subst eo53 | (injection eo53 with f1_ f2_ f3_; have f4_ := f1_.symm; have f5_ := f3_.symm; clear f1_ f2_ f3_; subst f4_; subst f5_))
                                      have p157 : 0 ≤ (x15_2 : Int) := of_decide_eq_true (by first | (with_reducible assumption) | assumption)
                                      have q157 : x15_2 < (x11_1.length : Int) := of_decide_eq_true (by first | (with_reducible assumption) | assumption)
                                      obtain ⟨ad157, e157, hx157_0⟩ := Kd.at_int (Kd.R_reads' HO_11.out).2.2 x15_2 p157 q157
                                      cases e157
                                      replace p157 := eq_true p157
                                      replace q157 := eq_true q157
                                      obtain ⟨Ao54, co54, eo54⟩ := Kd.R_slice HO156.out
                                      (first | subst eo54 | (injection eo54 with f1_ f2_ f3_; have f4_ := f1_.symm; have f5_ := f3_.symm; clear f1_ f2_ f3_; subst f4_; subst f5_))
                                      refine start_ (n := 12) (S := fun w' => w'.cell? (ad157.add (x15_2).toNat) = some (.int .i64 (rd x11_1 x15_2))) (ds := [9]) #[false, false, false, false, false, false, false, false, false, false, false, false] (by kernel_rfl) rfl rfl (hx157_0) (fun hHeld => ?_); refine with_tabW plaitinglaw12_SyncHolds.tab27 plaitinglaw12_SyncHolds.bits27 (fun HT_ HW_ => ?_)
                                      generalize w51.drew = w52 at HO_11 HO_14 HO156 HB hx157_0 hHeld ⊢
                                      refine pure_ (i := 0) (N := some 111) (v := ?_) (a' := ?_) #[true, false, false, false, false, false, false, false, false, false, false, false] rfl rfl (any_of HT_.out (by kernel_rfl)) (fun _ _ _ h => h) (Or.inl ⟨by rfl, ?_⟩) ?_ ?_
                                      rotate_left
                                      · intro w'
                                        go_simp
                                        with_reducible rfl
                                      rotate_left
                                      · simp only [Act.put, List.setIfInBounds_toArray, List.set_cons_zero, List.set_cons_succ, i64_w, i32_w]
                                        rfl
                                      refine pure_ (i := 1) (N := some 112) (v := ?_) (a' := ?_) #[true, true, false, false, false, false, false, false, false, false, false, false] rfl rfl (any_of HT_.out (by kernel_rfl)) (fun _ _ _ h => h) (Or.inl ⟨by rfl, ?_⟩) ?_ ?_
                                      rotate_left
                                      · intro w'
                                        go_simp
                                        with_reducible rfl
                                      rotate_left
                                      · simp only [Act.put, List.setIfInBounds_toArray, List.set_cons_zero, List.set_cons_succ, i64_w, i32_w]
                                        rfl
                                      refine pure_ (i := 2) (N := some 113) (v := ?_) (a' := ?_) #[true, true, true, false, false, false, false, false, false, false, false, false] rfl rfl (any_of HT_.out (by kernel_rfl)) (fun _ _ _ h => h) (Or.inl ⟨by rfl, ?_⟩) ?_ ?_
                                      rotate_left
                                      · intro w'
                                        go_simp
                                        with_reducible rfl
                                      rotate_left
                                      · simp only [Act.put, List.setIfInBounds_toArray, List.set_cons_zero, List.set_cons_succ, i64_w, i32_w]
                                        rfl
                                      refine pure_ (i := 3) (N := some 114) (v := ?_) (a' := ?_) #[true, true, true, true, false, false, false, false, false, false, false, false] rfl rfl (any_of HT_.out (by kernel_rfl)) (fun _ _ _ h => h) (Or.inl ⟨by rfl, ?_⟩) ?_ ?_
                                      rotate_left
                                      · intro w'
                                        go_simp
                                        with_reducible rfl
                                      rotate_left
                                      · simp only [Act.put, List.setIfInBounds_toArray, List.set_cons_zero, List.set_cons_succ, i64_w, i32_w]
                                        rfl
                                      refine pure_ (i := 5) (N := some 116) (v := ?_) (a' := ?_) #[true, true, true, true, false, true, false, false, false, false, false, false] rfl rfl (any_of HT_.out (by kernel_rfl)) (fun _ _ _ h => h) (Or.inl ⟨by rfl, ?_⟩) ?_ ?_
                                      rotate_left
                                      · intro w'
                                        go_simp
                                        with_reducible rfl
                                      rotate_left
                                      · simp only [Act.put, List.setIfInBounds_toArray, List.set_cons_zero, List.set_cons_succ, i64_w, i32_w]
                                        rfl
                                      refine pure_ (i := 6) (N := some 117) (v := ?_) (a' := ?_) #[true, true, true, true, false, true, true, false, false, false, false, false] rfl rfl (any_of HT_.out (by kernel_rfl)) (fun _ _ _ h => h) (Or.inl ⟨by rfl, ?_⟩) ?_ ?_
                                      rotate_left
                                      · intro w'
                                        go_simp
                                        with_reducible rfl
                                      rotate_left
                                      · simp only [Act.put, List.setIfInBounds_toArray, List.set_cons_zero, List.set_cons_succ, i64_w, i32_w]
                                        rfl
                                      refine take_ (i := 4) (N := some 115) (v := ?_) (a' := ?_) #[true, true, true, true, true, true, true, false, false, false, false, false] rfl rfl (take_ofW HT_.out HW_.out (by kernel_rfl)) (fun _ _ _ h => h) (Or.inl ⟨by rfl, ?_⟩) hHeld ?_ ?_
                                      rotate_left
                                      · intro w' s0
                                        go_simp
                                        with_reducible rfl
                                      rotate_left
                                      · simp only [Act.put, List.setIfInBounds_toArray, List.set_cons_zero, List.set_cons_succ, i64_w, i32_w]
                                        rfl
                                      refine one_ (i := 7) (N := some 118) #[true, true, true, true, true, true, true, true, false, false, false, false] rfl rfl (one_of HT_.out (by kernel_rfl)) (by decide) (fun K hK => ?_)
                                      refine goes_ Try.func21 (by kernel_rfl) rfl #[.int .i64 4, .int .i64 x15_2, .slice Ao54 y154.length co54] (by rfl) rfl rfl (by (try simp only [List.map_toArray, List.map_cons, List.map_nil]); first | done | rfl | (simp only [List.length_drop, List.length_take]; rfl)) ?_
                                      with_reducible refine (sync_Step.calls 4 x15_2 _ _ y154 t158 _ ?side1 ?side2 A49.out).mono ?_
                                      (case side1 => repeat (first | exact (Kd.R_reads' HO156.out).2.2 | (with_reducible refine Kd.C_alloc ?_ _) | (with_reducible refine Kd.C_drewN ?_ _) | (with_reducible refine Kd.C_drew ?_)))
                                      (case side2 => exact (Kd.R_reads' HO156.out).2.1)
                                      rintro e w55 ⟨rfl, hb⟩
                                      have HS0_ := (hb.cell (World.block_lt_of_cell? _ _ (hHeld))).trans (hHeld)
                                      refine ⟨_, rfl, ?_⟩
                                      have n0_ := Aside0.mk (Kd.R_below (by (with_reducible repeat (first | apply Kd.R_alloc | apply Kd.R_drewN | apply Kd.R_drew)); exact HO_11.out) hb)
                                      have n1_ := Aside0.mk (Kd.R_below (by (with_reducible repeat (first | apply Kd.R_alloc | apply Kd.R_drewN | apply Kd.R_drew)); exact HO_14.out) hb)
                                      have n2_ := Aside0.mk (Kd.R_below (by (with_reducible repeat (first | apply Kd.R_alloc | apply Kd.R_drewN | apply Kd.R_drew)); exact HO156.out) hb)
                                      have n3_ := Aside0.mk (below_step (by repeat (first | (with_reducible first | exact HB.out | apply below_alloc | apply pw_below_drewN | apply below_drew1) | exact HB.out)) hb)
                                      clear HO_11
                                      clear HO_14
                                      clear HO156
                                      clear HB
                                      have HO_11 := n0_
                                      have HO_14 := n1_
                                      have HO156 := n2_
                                      have HB := n3_
                                      clear n0_ n1_ n2_ n3_
                                      (try clear hb)
                                      (try clear hb2)
                                      (try clear hk)
                                      (try clear hi)
                                      refine hK.out _ _ (HS0_) (fun hHeld => ?_)
                                      clear hK K
                                      refine norm_ (a' := ?_) ?_ ?_
                                      rotate_left
                                      · show Act.put _ (some 118) _ = _
                                        simp only [Act.put, List.setIfInBounds_toArray, List.set_cons_zero, List.set_cons_succ, i64_w, i32_w]
                                        rfl
                                      refine pure_ (i := 8) (N := some 119) (v := ?_) (a' := ?_) #[true, true, true, true, true, true, true, true, true, false, false, false] rfl rfl (any_of HT_.out (by kernel_rfl)) (fun _ _ _ h => h) (Or.inl ⟨by rfl, ?_⟩) ?_ ?_
                                      rotate_left
                                      · intro w'
                                        go_simp
                                        with_reducible rfl
                                      rotate_left
                                      · simp only [Act.put, List.setIfInBounds_toArray, List.set_cons_zero, List.set_cons_succ, i64_w, i32_w]
                                        rfl
                                      refine last_ (i := 9) (N := some 120) #[true, true, true, true, true, true, true, true, true, true, false, false] rfl rfl (one_of HT_.out (by kernel_rfl)) (by decide) (fun K hK => ?_)
                                      refine value_ (w1 := ?_) (v := ?_) (by rfl) rfl ?_ ?_
                                      rotate_left 2
                                      · go_simp
                                        constructor
                                        · rfl
                                        · rfl
                                      refine hK.out _ _ ?_
                                      clear hK K
                                      refine norm_ (a' := ?_) ?_ ?_
                                      rotate_left
                                      · show Act.put _ (some 120) _ = _
                                        simp only [Act.put, List.setIfInBounds_toArray, List.set_cons_zero, List.set_cons_succ, i64_w, i32_w]
                                        rfl
                                      refine one_ (i := 10) (N := some 121) #[true, true, true, true, true, true, true, true, true, true, true, false] rfl rfl (one_of HT_.out (by kernel_rfl)) (by decide) (fun K hK => ?_)
                                      refine Kd.R_append_step (Kd.int .i64) (w0 := w) w.heap.size (by rfl) (.tmp 111) (.tmp 120) 22 3 (.int .i64 0) 8 rfl Try.underlying22 info3 rfl (by decide) (by omega) u14 x14_2 (wrap64 ((rd x11_1 x15_2) + t158)) [.int .i64 (wrap64 ((rd x11_1 x15_2) + t158))] (fun k_ => some k_ ≠ (.slice (some ad157) x11_1.length co53 : Value).ownBlock) (fun _ => False) rfl rfl ?aP (fun _ hk => hk.elim) ?aF ?aO ?aB ?aS ?aL ?_
                                      (case aP => exact rfl)
                                      (case aB => exact (by repeat (first | (with_reducible first | exact HB.out | apply below_alloc | apply pw_below_drewN | apply below_drew1) | exact HB.out)))
                                      (case aF => exact (fun k_ hk => Kd.fresh' (Kd.R_lt (by (with_reducible repeat (first | apply Kd.R_alloc | apply Kd.R_drewN | apply Kd.R_drew)); exact HO_11.out)) k_ hk))
                                      (case aO => exact (by (with_reducible repeat (first | apply Kd.R_alloc | apply Kd.R_drewN | apply Kd.R_drew)); exact HO_14.out))
                                      (case aS => exact (below_size (by repeat (first | (with_reducible first | exact HB.out | apply below_alloc | apply pw_below_drewN | apply below_drew1) | exact HB.out))))
                                      (case aL => have := LMc50.out; omega)
                                      intro v160 w56 ho hb hg hat
                                      (first | have HS0_ := cell_grown hg (hHeld) (by first | (rw [add_block]; exact (HO_11.out.1 _ rfl)) | (show some (Addr.add _ _).block ≠ _; rw [add_block]; exact (HO_11.out.1 _ rfl)) | exact (HO_11.out.1 _ rfl)) | have HS0_ := cell_grown hg (cell_unalloc (hHeld) (by first | (rw [add_block]; exact (Kd.R_lt HO_11.out _ rfl)) | (show (Addr.add _ _).block < _; rw [add_block]; exact (Kd.R_lt HO_11.out _ rfl)) | exact (Kd.R_lt HO_11.out _ rfl))) (by first | (rw [add_block]; exact (HO_11.out.1 _ rfl)) | (show some (Addr.add _ _).block ≠ _; rw [add_block]; exact (HO_11.out.1 _ rfl)) | exact (HO_11.out.1 _ rfl)))
                                      rw [← Ny159.out] at ho
                                      have n0_ := Aside0.mk (Kd.R_after (ok := (fun _ => True)) (by (with_reducible repeat (first | apply Kd.R_alloc | apply Kd.R_drewN | apply Kd.R_drew)); exact Kd.R_mono HO_11.out (fun _ hk => ⟨trivial, hk⟩)) hg hat)
                                      have n1_ := Aside0.mk (Kd.R_over' (by (with_reducible repeat (first | apply Kd.R_alloc | apply Kd.R_drewN | apply Kd.R_drew)); exact HO156.out) (Kd.R_typed (by (with_reducible repeat (first | apply Kd.R_alloc | apply Kd.R_drewN | apply Kd.R_drew)); exact HO_14.out)) (by decide) hg)
                                      have n2_ := Aside0.mk (hb)
                                      have n3_ := Aside0.mk (ho)
                                      clear HO_11
                                      clear HO156
                                      clear HB
                                      clear HO_14
                                      have HO_11 := n0_
                                      have HO156 := n1_
                                      have HB := n2_
                                      have HO161 := n3_
                                      clear n0_ n1_ n2_ n3_
                                      clear ho hb hg hat
                                      refine hK.out _ _ (HS0_) (fun hHeld => ?_)
                                      clear hK K
                                      refine norm_ (a' := ?_) ?_ ?_
                                      rotate_left
                                      · show Act.put _ (some 121) _ = _
                                        simp only [Act.put, List.setIfInBounds_toArray, List.set_cons_zero, List.set_cons_succ, i64_w, i32_w]
                                        rfl
                                      refine pure_ (i := 11) (N := some 14) (v := ?_) (a' := ?_) #[true, true, true, true, true, true, true, true, true, true, true, true] rfl rfl (any_of HT_.out (by kernel_rfl)) (fun _ _ _ h => h) (Or.inl ⟨by rfl, ?_⟩) ?_ ?_
                                      rotate_left
                                      · intro w'
                                        go_simp
                                        with_reducible rfl
                                      rotate_left
                                      · simp only [Act.put, List.setIfInBounds_toArray, List.set_cons_zero, List.set_cons_succ, i64_w, i32_w]
                                        rfl
                                      refine done_ (done_of HT_.out (by kernel_rfl)) ?_
                                      try go_wp2
                                      go_roundg k3
                                      case measure => have := HK1.out; have := HK2.out; have := HK3.out; omega
                                      case rel => exact ⟨(y159), (wrap64 (x15_2 + 1)), (by first | rfl | (simp; done) | (simp [*]; done)), H', ⟨by have := HK1.out; have := HK2.out; have := HK3.out; omega⟩, ⟨by (with_reducible repeat (first | apply Kd.R_alloc | apply Kd.R_drewN | apply Kd.R_drew)); exact Kd.R_mono HO_11.out (fun _ hk => hk.2)⟩, ⟨by (with_reducible repeat (first | apply Kd.R_alloc | apply Kd.R_drewN | apply Kd.R_drew)); exact HO161.out⟩, ⟨by repeat (first | (with_reducible first | exact HB.out | apply below_alloc | apply pw_below_drewN | apply below_drew1) | exact HB.out)⟩⟩
                                    · rw [if_neg c50] at H
                                      exact absurd H (by simp)
                                  · rw [if_neg c48] at H
                                    exact absurd H (by simp)
                                · rw [if_neg c47] at H
                                  exact absurd H (by simp)
                              · rw [if_neg c46] at H
                                exact absurd H (by simp)
                            · rw [if_neg c44] at H
                              exact absurd H (by simp)
                          · rw [if_neg c43] at H
                            exact absurd H (by simp)
                      · rw [if_neg c40] at H
                        have c40b0 : decide (0 < (l2.length : Int)) = false := decide_eq_false c40
                        have c40b1 : decide (0 < l2.length) = false := decide_eq_false (by omega)
                        clear c40
                        by_cases c57 : 0 ≤ x15_2
                        · rw [if_pos c57] at H
                          have c57b0 : decide (0 ≤ x15_2) = true := decide_eq_true c57
                          clear c57
                          by_cases c58 : x15_2 < (x11_1.length : Int)
                          · rw [if_pos c58] at H
                            have c58b0 : decide (x15_2 < (x11_1.length : Int)) = true := decide_eq_true c58
                            clear c58
                            replace H := Option.bind_eq_some_iff.mp H
                            obtain ⟨t163, A590, H⟩ := H
                            replace H : (if x14_2.length < 17592186044416 then (plaitinglaw12_SyncHolds.l1 k3 l1 l2 t131 (wrap64 (4 + t130)) x11_1 (x14_2 ++ [wrap64 ((rd x11_1 x15_2) + t163)]) (wrap64 (x15_2 + 1))) else (none)) = some r := H
                            have A59 := Aside0.mk A590
                            clear A590
                            by_cases c60 : x14_2.length < 17592186044416
                            · rw [if_pos c60] at H
                              have LMc60 := Aside0.mk c60
                              clear c60
                              obtain ⟨y164, hy164⟩ : ∃ y_ : List Int, y_ = (x14_2 ++ [wrap64 ((rd x11_1 x15_2) + t163)]) := ⟨_, rfl⟩
                              replace H : (plaitinglaw12_SyncHolds.l1 k3 l1 l2 t131 (wrap64 (4 + t130)) x11_1 y164 (wrap64 (x15_2 + 1))) = some r := by first | (rw [hy164]; with_reducible exact H) | (have H2_ := (Option.bind_some _ _).symm.trans H; rw [hy164]; with_reducible exact H2_) | (have H2_ := (Option.bind_some _ _).symm.trans H; with_reducible exact H2_) | with_reducible exact H | (rw [hy164]; exact H) | exact H
                              have Ny164 := Aside0.mk hy164
                              clear hy164
                              have H' := Aside0.mk H
                              clear H
                              try go_wp2
                              have n0_ := Aside0.mk (Kd.R_drew HO_11.out)
                              have n1_ := Aside0.mk (Kd.R_drew HO_14.out)
                              have n2_ := Aside0.mk (Kd.R_drew HO_16.out)
                              have n3_ := Aside0.mk (below_drew1 HB.out)
                              clear HO_11
                              clear HO_14
                              clear HO_16
                              clear HB
                              have HO_11 := n0_
                              have HO_14 := n1_
                              have HO_16 := n2_
                              have HB := n3_
                              clear n0_ n1_ n2_ n3_
                              obtain ⟨Ao62, co62, eo62⟩ := Kd.R_slice HO_11.out
                              (first | subst eo62 | (injection eo62 with f1_ f2_ f3_; have f4_ := f1_.symm; have f5_ := f3_.symm; clear f1_ f2_ f3_; subst f4_; subst f5_))
                              have p162 : 0 ≤ (x15_2 : Int) := of_decide_eq_true (by first | (with_reducible assumption) | assumption)
                              have q162 : x15_2 < (x11_1.length : Int) := of_decide_eq_true (by first | (with_reducible assumption) | assumption)
                              obtain ⟨ad162, e162, hx162_0⟩ := Kd.at_int (Kd.R_reads' HO_11.out).2.2 x15_2 p162 q162
                              cases e162
                              replace p162 := eq_true p162
                              replace q162 := eq_true q162
                              obtain ⟨Ao63, co63, eo63⟩ := Kd.R_slice HO_16.out
                              (first | subst eo63 | (injection eo63 with f1_ f2_ f3_; have f4_ := f1_.symm; have f5_ := f3_.symm; clear f1_ f2_ f3_; subst f4_; subst f5_))
                              refine start_ (n := 12) (S := fun w' => w'.cell? (ad162.add (x15_2).toNat) = some (.int .i64 (rd x11_1 x15_2))) (ds := [9]) #[false, false, false, false, false, false, false, false, false, false, false, false] (by kernel_rfl) rfl rfl (hx162_0) (fun hHeld => ?_); refine with_tabW plaitinglaw12_SyncHolds.tab27 plaitinglaw12_SyncHolds.bits27 (fun HT_ HW_ => ?_)
                              generalize wr.drew = w61 at HO_11 HO_14 HO_16 HB hx162_0 hHeld ⊢
                              refine pure_ (i := 0) (N := some 111) (v := ?_) (a' := ?_) #[true, false, false, false, false, false, false, false, false, false, false, false] rfl rfl (any_of HT_.out (by kernel_rfl)) (fun _ _ _ h => h) (Or.inl ⟨by rfl, ?_⟩) ?_ ?_
                              rotate_left
                              · intro w'
                                go_simp
                                with_reducible rfl
                              rotate_left
                              · simp only [Act.put, List.setIfInBounds_toArray, List.set_cons_zero, List.set_cons_succ, i64_w, i32_w]
                                rfl
                              refine pure_ (i := 1) (N := some 112) (v := ?_) (a' := ?_) #[true, true, false, false, false, false, false, false, false, false, false, false] rfl rfl (any_of HT_.out (by kernel_rfl)) (fun _ _ _ h => h) (Or.inl ⟨by rfl, ?_⟩) ?_ ?_
                              rotate_left
                              · intro w'
                                go_simp
                                with_reducible rfl
                              rotate_left
                              · simp only [Act.put, List.setIfInBounds_toArray, List.set_cons_zero, List.set_cons_succ, i64_w, i32_w]
                                rfl
                              refine pure_ (i := 2) (N := some 113) (v := ?_) (a' := ?_) #[true, true, true, false, false, false, false, false, false, false, false, false] rfl rfl (any_of HT_.out (by kernel_rfl)) (fun _ _ _ h => h) (Or.inl ⟨by rfl, ?_⟩) ?_ ?_
                              rotate_left
                              · intro w'
                                go_simp
                                with_reducible rfl
                              rotate_left
                              · simp only [Act.put, List.setIfInBounds_toArray, List.set_cons_zero, List.set_cons_succ, i64_w, i32_w]
                                rfl
                              refine pure_ (i := 3) (N := some 114) (v := ?_) (a' := ?_) #[true, true, true, true, false, false, false, false, false, false, false, false] rfl rfl (any_of HT_.out (by kernel_rfl)) (fun _ _ _ h => h) (Or.inl ⟨by rfl, ?_⟩) ?_ ?_
                              rotate_left
                              · intro w'
                                go_simp
                                with_reducible rfl
                              rotate_left
                              · simp only [Act.put, List.setIfInBounds_toArray, List.set_cons_zero, List.set_cons_succ, i64_w, i32_w]
                                rfl
                              refine pure_ (i := 5) (N := some 116) (v := ?_) (a' := ?_) #[true, true, true, true, false, true, false, false, false, false, false, false] rfl rfl (any_of HT_.out (by kernel_rfl)) (fun _ _ _ h => h) (Or.inl ⟨by rfl, ?_⟩) ?_ ?_
                              rotate_left
                              · intro w'
                                go_simp
                                with_reducible rfl
                              rotate_left
                              · simp only [Act.put, List.setIfInBounds_toArray, List.set_cons_zero, List.set_cons_succ, i64_w, i32_w]
                                rfl
                              refine pure_ (i := 6) (N := some 117) (v := ?_) (a' := ?_) #[true, true, true, true, false, true, true, false, false, false, false, false] rfl rfl (any_of HT_.out (by kernel_rfl)) (fun _ _ _ h => h) (Or.inl ⟨by rfl, ?_⟩) ?_ ?_
                              rotate_left
                              · intro w'
                                go_simp
                                with_reducible rfl
                              rotate_left
                              · simp only [Act.put, List.setIfInBounds_toArray, List.set_cons_zero, List.set_cons_succ, i64_w, i32_w]
                                rfl
                              refine take_ (i := 4) (N := some 115) (v := ?_) (a' := ?_) #[true, true, true, true, true, true, true, false, false, false, false, false] rfl rfl (take_ofW HT_.out HW_.out (by kernel_rfl)) (fun _ _ _ h => h) (Or.inl ⟨by rfl, ?_⟩) hHeld ?_ ?_
                              rotate_left
                              · intro w' s0
                                go_simp
                                with_reducible rfl
                              rotate_left
                              · simp only [Act.put, List.setIfInBounds_toArray, List.set_cons_zero, List.set_cons_succ, i64_w, i32_w]
                                rfl
                              refine one_ (i := 7) (N := some 118) #[true, true, true, true, true, true, true, true, false, false, false, false] rfl rfl (one_of HT_.out (by kernel_rfl)) (by decide) (fun K hK => ?_)
                              refine goes_ Try.func21 (by kernel_rfl) rfl #[.int .i64 4, .int .i64 x15_2, .slice Ao63 x16_3.length co63] (by rfl) rfl rfl (by (try simp only [List.map_toArray, List.map_cons, List.map_nil]); first | done | rfl | (simp only [List.length_drop, List.length_take]; rfl)) ?_
                              with_reducible refine (sync_Step.calls 4 x15_2 _ _ x16_3 t163 _ ?side1 ?side2 A59.out).mono ?_
                              (case side1 => repeat (first | exact (Kd.R_reads' HO_16.out).2.2 | (with_reducible refine Kd.C_alloc ?_ _) | (with_reducible refine Kd.C_drewN ?_ _) | (with_reducible refine Kd.C_drew ?_)))
                              (case side2 => exact (Kd.R_reads' HO_16.out).2.1)
                              rintro e w64 ⟨rfl, hb⟩
                              have HS0_ := (hb.cell (World.block_lt_of_cell? _ _ (hHeld))).trans (hHeld)
                              refine ⟨_, rfl, ?_⟩
                              have n0_ := Aside0.mk (Kd.R_below (by (with_reducible repeat (first | apply Kd.R_alloc | apply Kd.R_drewN | apply Kd.R_drew)); exact HO_11.out) hb)
                              have n1_ := Aside0.mk (Kd.R_below (by (with_reducible repeat (first | apply Kd.R_alloc | apply Kd.R_drewN | apply Kd.R_drew)); exact HO_14.out) hb)
                              have n2_ := Aside0.mk (Kd.R_below (by (with_reducible repeat (first | apply Kd.R_alloc | apply Kd.R_drewN | apply Kd.R_drew)); exact HO_16.out) hb)
                              have n3_ := Aside0.mk (below_step (by repeat (first | (with_reducible first | exact HB.out | apply below_alloc | apply pw_below_drewN | apply below_drew1) | exact HB.out)) hb)
                              clear HO_11
                              clear HO_14
                              clear HO_16
                              clear HB
                              have HO_11 := n0_
                              have HO_14 := n1_
                              have HO_16 := n2_
                              have HB := n3_
                              clear n0_ n1_ n2_ n3_
                              (try clear hb)
                              (try clear hb2)
                              (try clear hk)
                              (try clear hi)
                              refine hK.out _ _ (HS0_) (fun hHeld => ?_)
                              clear hK K
                              refine norm_ (a' := ?_) ?_ ?_
                              rotate_left
                              · show Act.put _ (some 118) _ = _
                                simp only [Act.put, List.setIfInBounds_toArray, List.set_cons_zero, List.set_cons_succ, i64_w, i32_w]
                                rfl
                              refine pure_ (i := 8) (N := some 119) (v := ?_) (a' := ?_) #[true, true, true, true, true, true, true, true, true, false, false, false] rfl rfl (any_of HT_.out (by kernel_rfl)) (fun _ _ _ h => h) (Or.inl ⟨by rfl, ?_⟩) ?_ ?_
                              rotate_left
                              · intro w'
                                go_simp
                                with_reducible rfl
                              rotate_left
                              · simp only [Act.put, List.setIfInBounds_toArray, List.set_cons_zero, List.set_cons_succ, i64_w, i32_w]
                                rfl
                              refine last_ (i := 9) (N := some 120) #[true, true, true, true, true, true, true, true, true, true, false, false] rfl rfl (one_of HT_.out (by kernel_rfl)) (by decide) (fun K hK => ?_)
                              refine value_ (w1 := ?_) (v := ?_) (by rfl) rfl ?_ ?_
                              rotate_left 2
                              · go_simp
                                constructor
                                · rfl
                                · rfl
                              refine hK.out _ _ ?_
                              clear hK K
                              refine norm_ (a' := ?_) ?_ ?_
                              rotate_left
                              · show Act.put _ (some 120) _ = _
                                simp only [Act.put, List.setIfInBounds_toArray, List.set_cons_zero, List.set_cons_succ, i64_w, i32_w]
                                rfl
                              refine one_ (i := 10) (N := some 121) #[true, true, true, true, true, true, true, true, true, true, true, false] rfl rfl (one_of HT_.out (by kernel_rfl)) (by decide) (fun K hK => ?_)
                              refine Kd.R_append_step (Kd.int .i64) (w0 := w) w.heap.size (by rfl) (.tmp 111) (.tmp 120) 22 3 (.int .i64 0) 8 rfl Try.underlying22 info3 rfl (by decide) (by omega) u14 x14_2 (wrap64 ((rd x11_1 x15_2) + t163)) [.int .i64 (wrap64 ((rd x11_1 x15_2) + t163))] (fun k_ => some k_ ≠ (.slice (some ad162) x11_1.length co62 : Value).ownBlock) (fun _ => False) rfl rfl ?aP (fun _ hk => hk.elim) ?aF ?aO ?aB ?aS ?aL ?_
                              (case aP => exact rfl)
                              (case aB => exact (by repeat (first | (with_reducible first | exact HB.out | apply below_alloc | apply pw_below_drewN | apply below_drew1) | exact HB.out)))
                              (case aF => exact (fun k_ hk => Kd.fresh' (Kd.R_lt (by (with_reducible repeat (first | apply Kd.R_alloc | apply Kd.R_drewN | apply Kd.R_drew)); exact HO_11.out)) k_ hk))
                              (case aO => exact (by (with_reducible repeat (first | apply Kd.R_alloc | apply Kd.R_drewN | apply Kd.R_drew)); exact HO_14.out))
                              (case aS => exact (below_size (by repeat (first | (with_reducible first | exact HB.out | apply below_alloc | apply pw_below_drewN | apply below_drew1) | exact HB.out))))
                              (case aL => have := LMc60.out; omega)
                              intro v165 w65 ho hb hg hat
                              (first | have HS0_ := cell_grown hg (hHeld) (by first | (rw [add_block]; exact (HO_11.out.1 _ rfl)) | (show some (Addr.add _ _).block ≠ _; rw [add_block]; exact (HO_11.out.1 _ rfl)) | exact (HO_11.out.1 _ rfl)) | have HS0_ := cell_grown hg (cell_unalloc (hHeld) (by first | (rw [add_block]; exact (Kd.R_lt HO_11.out _ rfl)) | (show (Addr.add _ _).block < _; rw [add_block]; exact (Kd.R_lt HO_11.out _ rfl)) | exact (Kd.R_lt HO_11.out _ rfl))) (by first | (rw [add_block]; exact (HO_11.out.1 _ rfl)) | (show some (Addr.add _ _).block ≠ _; rw [add_block]; exact (HO_11.out.1 _ rfl)) | exact (HO_11.out.1 _ rfl)))
                              rw [← Ny164.out] at ho
                              have n0_ := Aside0.mk (Kd.R_after (ok := (fun _ => True)) (by (with_reducible repeat (first | apply Kd.R_alloc | apply Kd.R_drewN | apply Kd.R_drew)); exact Kd.R_mono HO_11.out (fun _ hk => ⟨trivial, hk⟩)) hg hat)
                              have n1_ := Aside0.mk (Kd.R_over' (by (with_reducible repeat (first | apply Kd.R_alloc | apply Kd.R_drewN | apply Kd.R_drew)); exact HO_16.out) (Kd.R_typed (by (with_reducible repeat (first | apply Kd.R_alloc | apply Kd.R_drewN | apply Kd.R_drew)); exact HO_14.out)) (by decide) hg)
                              have n2_ := Aside0.mk (hb)
                              have n3_ := Aside0.mk (ho)
                              clear HO_11
                              clear HO_16
                              clear HB
                              clear HO_14
                              have HO_11 := n0_
                              have HO_16 := n1_
                              have HB := n2_
                              have HO166 := n3_
                              clear n0_ n1_ n2_ n3_
                              clear ho hb hg hat
                              refine hK.out _ _ (HS0_) (fun hHeld => ?_)
                              clear hK K
                              refine norm_ (a' := ?_) ?_ ?_
                              rotate_left
                              · show Act.put _ (some 121) _ = _
                                simp only [Act.put, List.setIfInBounds_toArray, List.set_cons_zero, List.set_cons_succ, i64_w, i32_w]
                                rfl
                              refine pure_ (i := 11) (N := some 14) (v := ?_) (a' := ?_) #[true, true, true, true, true, true, true, true, true, true, true, true] rfl rfl (any_of HT_.out (by kernel_rfl)) (fun _ _ _ h => h) (Or.inl ⟨by rfl, ?_⟩) ?_ ?_
                              rotate_left
                              · intro w'
                                go_simp
                                with_reducible rfl
                              rotate_left
                              · simp only [Act.put, List.setIfInBounds_toArray, List.set_cons_zero, List.set_cons_succ, i64_w, i32_w]
                                rfl
                              refine done_ (done_of HT_.out (by kernel_rfl)) ?_
                              try go_wp2
                              go_roundg k3
                              case measure => have := HK1.out; have := HK2.out; have := HK3.out; omega
                              case rel => exact ⟨(y164), (wrap64 (x15_2 + 1)), (by first | rfl | (simp; done) | (simp [*]; done)), H', ⟨by have := HK1.out; have := HK2.out; have := HK3.out; omega⟩, ⟨by (with_reducible repeat (first | apply Kd.R_alloc | apply Kd.R_drewN | apply Kd.R_drew)); exact Kd.R_mono HO_11.out (fun _ hk => hk.2)⟩, ⟨by (with_reducible repeat (first | apply Kd.R_alloc | apply Kd.R_drewN | apply Kd.R_drew)); exact HO166.out⟩, ⟨by repeat (first | (with_reducible first | exact HB.out | apply below_alloc | apply pw_below_drewN | apply below_drew1) | exact HB.out)⟩⟩
                            · rw [if_neg c60] at H
                              exact absurd H (by simp)
                          · rw [if_neg c58] at H
                            exact absurd H (by simp)
                        · rw [if_neg c57] at H
                          exact absurd H (by simp)
              · rw [if_neg c19] at H
                have c19b0 : decide (x15_2 < (wrap64 (4 + t130))) = false := decide_eq_false c19
                clear c19
                replace H := Option.bind_eq_some_iff.mp H
                obtain ⟨t140, A660, H⟩ := H
                replace H : ((plaitingref12_Skew.f k2 x11_1).bind fun t141 => (some (decide ((wrap64 (2 * t140)) ≤ (wrap64 ((wrap64 (t141 + (wrap64 (4 * t131)))) + 2)))))) = some r := H
                have A66 := Aside0.mk A660
                clear A660
                replace H := Option.bind_eq_some_iff.mp H
                obtain ⟨t141, A670, H⟩ := H
                replace H : (some (decide ((wrap64 (2 * t140)) ≤ (wrap64 ((wrap64 (t141 + (wrap64 (4 * t131)))) + 2))))) = some r := H
                have A67 := Aside0.mk A670
                clear A670
                obtain rfl := Option.some.inj H
                obtain ⟨Ao68, co68, eo68⟩ := Kd.R_slice HO_14.out
                subst eo68
                go_wp2_with (first | ((with_reducible refine gate_callee (f := 22) rfl ?_); refine goesL_ (some 123) rfl rfl Try.func22 (by kernel_rfl) rfl #[.slice Ao68 x14_2.length co68] rfl (by (try simp only [List.map_toArray, List.map_cons, List.map_nil]); first | done | rfl | (simp only [List.length_drop, List.length_take]; rfl)) ?_; (with_reducible refine (plaitingref12_Skew.calls k2 _ _ x14_2 t140 _ ?side1 ?side2 A66.out).mono ?_); (case side1 => repeat (first | exact (Kd.R_reads' HO_14.out).2.2 | (with_reducible refine Kd.C_alloc ?_ _) | (with_reducible refine Kd.C_drewN ?_ _) | (with_reducible refine Kd.C_drew ?_))); (case side2 => exact (Kd.R_reads' HO_14.out).2.1); rintro e w69 ⟨rfl, hb⟩; refine ⟨_, rfl, ?_⟩; have n0_ := Aside0.mk (Kd.R_below (by (with_reducible repeat (first | apply Kd.R_alloc | apply Kd.R_drewN | apply Kd.R_drew)); exact HO_11.out) hb); have n1_ := Aside0.mk (Kd.R_below (by (with_reducible repeat (first | apply Kd.R_alloc | apply Kd.R_drewN | apply Kd.R_drew)); exact HO_14.out) hb); have n2_ := Aside0.mk (below_step (by repeat (first | (with_reducible first | exact HB.out | apply below_alloc | apply pw_below_drewN | apply below_drew1) | exact HB.out)) hb); clear HO_11; clear HO_14; clear HB; have HO_11 := n0_; have HO_14 := n1_; have HB := n2_; clear n0_ n1_ n2_; (try clear hb); (try clear hb2); (try clear hk); (try clear hi); obtain ⟨Ao70, co70, eo70⟩ := Kd.R_slice HO_11.out; subst eo70) | ((with_reducible refine gate_callee (f := 22) rfl ?_); refine goesL_ (some 126) rfl rfl Try.func22 (by kernel_rfl) rfl #[.slice Ao70 x11_1.length co70] rfl (by (try simp only [List.map_toArray, List.map_cons, List.map_nil]); first | done | rfl | (simp only [List.length_drop, List.length_take]; rfl)) ?_; (with_reducible refine (plaitingref12_Skew.calls k2 _ _ x11_1 t141 _ ?side1 ?side2 A67.out).mono ?_); (case side1 => repeat (first | exact (Kd.R_reads' HO_11.out).2.2 | (with_reducible refine Kd.C_alloc ?_ _) | (with_reducible refine Kd.C_drewN ?_ _) | (with_reducible refine Kd.C_drew ?_))); (case side2 => exact (Kd.R_reads' HO_11.out).2.1); rintro e w71 ⟨rfl, hb⟩; refine ⟨_, rfl, ?_⟩; have n0_ := Aside0.mk (Kd.R_below (by (with_reducible repeat (first | apply Kd.R_alloc | apply Kd.R_drewN | apply Kd.R_drew)); exact HO_11.out) hb); have n1_ := Aside0.mk (Kd.R_below (by (with_reducible repeat (first | apply Kd.R_alloc | apply Kd.R_drewN | apply Kd.R_drew)); exact HO_14.out) hb); have n2_ := Aside0.mk (below_step (by repeat (first | (with_reducible first | exact HB.out | apply below_alloc | apply pw_below_drewN | apply below_drew1) | exact HB.out)) hb); clear HO_11; clear HO_14; clear HB; have HO_11 := n0_; have HO_14 := n1_; have HB := n2_; clear n0_ n1_ n2_; (try clear hb); (try clear hb2); (try clear hk); (try clear hi)))
                go_ret
                exact ⟨by first | rfl | (simp [errW_none, errW_some] <;> rfl) | (simp [*, errW_none, errW_some] <;> rfl), by repeat (first | (with_reducible first | exact HB.out | apply below_alloc | apply pw_below_drewN | apply below_drew1) | exact HB.out)⟩
  · replace c7 := Bool.eq_false_iff.mpr c7
    subst c7
    have H1 : (some false) = some r := by rw [if_neg (show ¬ (false = true) by decide)] at H; exact H
    clear H
    have H := H1
    clear H1
    obtain rfl := Option.some.inj H
    go_enter Try.func9, Try.ntmps9
    go_wp2_with (first | ((with_reducible refine gate_callee (f := 19) rfl ?_); refine goesL_ (some 19) rfl rfl Try.func19 (by kernel_rfl) rfl #[] rfl (by (try simp only [List.map_toArray, List.map_cons, List.map_nil]); first | done | rfl | (simp only [List.length_drop, List.length_take]; rfl)) ?_; (with_reducible refine (plaitinglaw12_known.calls  false _ A6.out).mono ?_); rintro e w72 ⟨rfl, hb⟩; refine ⟨_, rfl, ?_⟩; have n0_ := Aside0.mk (below_step (by repeat (first | (with_reducible first | exact HB.out | apply below_alloc | apply pw_below_drewN | apply below_drew1) | exact HB.out)) hb); clear HB; have HB := n0_; clear n0_; (try clear hb); (try clear hb2); (try clear hk); (try clear hi)))
    go_ret
    exact ⟨by first | rfl | (simp [errW_none, errW_some] <;> rfl) | (simp [*, errW_none, errW_some] <;> rfl), by repeat (first | (with_reducible first | exact HB.out | apply below_alloc | apply pw_below_drewN | apply below_drew1) | exact HB.out)⟩

/-- THE ONE PURE STATEMENT of plaitinglaw12_SyncHolds: yours. -/
def plaitinglaw12_SyncHolds.Pure : Prop := ∀ (l0 : List Int) (l1 : List Int) (l2 : List Int) (a3 : Int) (a4 : Int), l0.length ≤ maxLen → l0.length * 8 ≤ 140737488351232 → (∀ x ∈ l0, (Lit.int .i64 x).wf = true) → l1.length ≤ maxLen → l1.length * 8 ≤ 140737488351232 → (∀ x ∈ l1, (Lit.int .i64 x).wf = true) → l2.length ≤ maxLen → l2.length * 8 ≤ 140737488351232 → (∀ x ∈ l2, (Lit.int .i64 x).wf = true) → (Lit.int .i64 a3).wf = true → (Lit.int .i64 a4).wf = true → ∃ k, plaitinglaw12_SyncHolds.f k l0 l1 l2 a3 a4 = some true
theorem plaitinglaw12_SyncHolds.walk (P : plaitinglaw12_SyncHolds.Pure) (a0 : Option Addr) (len0 cap0 : Nat) (z0 : List Int) (a1 : Option Addr) (len1 cap1 : Nat) (z1 : List Int) (a2 : Option Addr) (len2 cap2 : Nat) (z2 : List Int) (a3 : Int) (a4 : Int) (w : World) (w0 : (a0 = none ∧ len0 = 0 ∧ cap0 = 0 ∧ z0 = []) ∨ ∃ x, a0 = some x ∧ len0 ≤ cap0 ∧ cap0 ≤ maxLen ∧ z0.length = cap0 ∧ (∀ i, i < z0.length → w.cell? (x.add i) = some (.int .i64 (z0.getD i 0))) ∧ ∀ n ∈ z0, (Lit.int .i64 n).wf = true) (y0 : len0 * 8 ≤ 140737488351232) (w1 : (a1 = none ∧ len1 = 0 ∧ cap1 = 0 ∧ z1 = []) ∨ ∃ x, a1 = some x ∧ len1 ≤ cap1 ∧ cap1 ≤ maxLen ∧ z1.length = cap1 ∧ (∀ i, i < z1.length → w.cell? (x.add i) = some (.int .i64 (z1.getD i 0))) ∧ ∀ n ∈ z1, (Lit.int .i64 n).wf = true) (y1 : len1 * 8 ≤ 140737488351232) (w2 : (a2 = none ∧ len2 = 0 ∧ cap2 = 0 ∧ z2 = []) ∨ ∃ x, a2 = some x ∧ len2 ≤ cap2 ∧ cap2 ≤ maxLen ∧ z2.length = cap2 ∧ (∀ i, i < z2.length → w.cell? (x.add i) = some (.int .i64 (z2.getD i 0))) ∧ ∀ n ∈ z2, (Lit.int .i64 n).wf = true) (y2 : len2 * 8 ≤ 140737488351232) (w3 : (Lit.int .i64 a3).wf = true) (w4 : (Lit.int .i64 a4).wf = true) :
    Calls Try.prog 9 #[.slice a0 len0 cap0, .slice a1 len1 cap1, .slice a2 len2 cap2, .int .i64 a3, .int .i64 a4] w fun e w' => e = .returned (.bool true) ∧ Below w.heap.size w w' := by
  obtain ⟨l0, rfl, hr0, hm0, hw0, hc0⟩ := ReadsInt.ofRowC w0
  obtain ⟨l1, rfl, hr1, hm1, hw1, hc1⟩ := ReadsInt.ofRowC w1
  obtain ⟨l2, rfl, hr2, hm2, hw2, hc2⟩ := ReadsInt.ofRowC w2
  obtain ⟨k, h⟩ := P l0 l1 l2 a3 a4 hm0 y0 hw0 hm1 y1 hw1 hm2 y2 hw2 w3 w4
  refine (plaitinglaw12_SyncHolds.calls k _ _ l0 _ _ l1 _ _ l2 a3 a4 true w (Kd.C_of_reads (d := (0 : Int)) (h1 := fun _ => rfl) hr0) hc0 (Kd.C_of_reads (d := (0 : Int)) (h1 := fun _ => rfl) hr1) hc1 (Kd.C_of_reads (d := (0 : Int)) (h1 := fun _ => rfl) hr2) hc2 h).mono ?_
  rintro e w' ⟨rfl, hd⟩
  exact ⟨rfl, hd⟩

end Go.Proofs.Ytegbklmmkamjgaa.PC
