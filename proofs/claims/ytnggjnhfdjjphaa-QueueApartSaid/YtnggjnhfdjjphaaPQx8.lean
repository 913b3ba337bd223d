-- Written by the session's own program (wip/gen).
import Derived.Test.YtnggjnhfdjjphaaPQx0
import Derived.Test.YtnggjnhfdjjphaaPQx1
import Derived.Test.YtnggjnhfdjjphaaPQx2
import Derived.Test.YtnggjnhfdjjphaaPQx3
import Derived.Test.YtnggjnhfdjjphaaPQx4
import Derived.Test.YtnggjnhfdjjphaaPQx7
namespace Go.Proofs.Ytnggjnhfdjjphaa.PQ
open Go.RowKit Go.Proofs.YtnggjnhfdjjphaaW.PrintWords Go.Proofs.YtnggjnhfdjjphaaW.PrintLast Go.Proofs.YtnggjnhfdjjphaaW.PrintMore
attribute [local go_sem] max2_int min2_int max_two min_two max_three min_three max_four min_four   -- for this text's walks alone
set_option linter.unusedVariables false
set_option linter.unusedSimpArgs false

attribute [local go_sem high] eqA33
/-! ### plaitinglaw14_QueueApart: function 6 -/
mutual
def plaitinglaw14_QueueApart.l0 : Nat → List Int → List Int → Int → Int → Int → Int → Int → Int → Int → Int → Int → Int → Int → Option (Bool)
  | 0, _, _, _, _, _, _, _, _, _, _, _, _, _ => none
  | k + 1, x0, x1, x7, x205000, x205001, x205002, x205003, x205004, x206000, x206001, x206002, x206003, x206004 => if x7 < (mn (x0.length : Int) 4) then (if 0 ≤ x7 then (if x7 < (x0.length : Int) then ((plaitinglaw14_within.f (rd x0 x7) 256).bind fun t207 => ((queue_Queue_Send.f x205000 x205001 x205002 x205003 x205004 t207).bind fun bt208 => (if bt208.1 = 0 then (plaitinglaw14_QueueApart.l0 k x0 x1 (wrap64 (x7 + 1)) bt208.2.1 bt208.2.2.1 bt208.2.2.2.1 bt208.2.2.2.2.1 bt208.2.2.2.2.2 x206000 x206001 x206002 x206003 x206004) else (some false)))) else (none)) else (none)) else (plaitinglaw14_QueueApart.l1 k x1 0 x205000 x205001 x205002 x205003 x205004 x206000 x206001 x206002 x206003 x206004)
def plaitinglaw14_QueueApart.l1 : Nat → List Int → Int → Int → Int → Int → Int → Int → Int → Int → Int → Int → Int → Option (Bool)
  | 0, _, _, _, _, _, _, _, _, _, _, _, _ => none
  | k + 1, x1, x8, x205000, x205001, x205002, x205003, x205004, x206000, x206001, x206002, x206003, x206004 => if x8 < (mn (x1.length : Int) 4) then (if 0 ≤ x8 then (if x8 < (x1.length : Int) then ((plaitinglaw14_within.f (rd x1 x8) 256).bind fun t215 => ((queue_Queue_Send.f x206000 x206001 x206002 x206003 x206004 t215).bind fun bt216 => (if bt216.1 = 0 then (plaitinglaw14_QueueApart.l1 k x1 (wrap64 (x8 + 1)) x205000 x205001 x205002 x205003 x205004 bt216.2.1 bt216.2.2.1 bt216.2.2.2.1 bt216.2.2.2.2.1 bt216.2.2.2.2.2) else (some false)))) else (none)) else (none)) else ((queue_Queue_Clear.f x205000 x205001 x205002 x205003 x205004).bind fun bt222 => ((queue_Queue_Len.f bt222.1 bt222.2.1 bt222.2.2.1 bt222.2.2.2.1 bt222.2.2.2.2).bind fun bt227 => (if bt227.1 = 0 then ((queue_Queue_Len.f x206000 x206001 x206002 x206003 x206004).bind fun bt233 => (if bt233.1 = (mn (x1.length : Int) 4) then ((queue_Queue_Next.f bt227.2.1 bt227.2.2.1 bt227.2.2.2.1 bt227.2.2.2.2.1 bt227.2.2.2.2.2).bind fun bt239 => (plaitinglaw14_QueueApart.j2 k x1 (!(bt239.1 == 1) || (!(bt239.2.1 == 0))) bt239.2.2.1 bt239.2.2.2.1 bt239.2.2.2.2.1 bt239.2.2.2.2.2.1 bt239.2.2.2.2.2.2 bt233.2.1 bt233.2.2.1 bt233.2.2.2.1 bt233.2.2.2.2.1 bt233.2.2.2.2.2)) else (plaitinglaw14_QueueApart.j2 k x1 true bt227.2.1 bt227.2.2.1 bt227.2.2.2.1 bt227.2.2.2.2.1 bt227.2.2.2.2.2 bt233.2.1 bt233.2.2.1 bt233.2.2.2.1 bt233.2.2.2.2.1 bt233.2.2.2.2.2))) else (plaitinglaw14_QueueApart.j2 k x1 true bt227.2.1 bt227.2.2.1 bt227.2.2.2.1 bt227.2.2.2.2.1 bt227.2.2.2.2.2 x206000 x206001 x206002 x206003 x206004))))
def plaitinglaw14_QueueApart.j2 : Nat → List Int → Bool → Int → Int → Int → Int → Int → Int → Int → Int → Int → Int → Option (Bool)
  | 0, _, _, _, _, _, _, _, _, _, _, _, _ => none
  | k + 1, x1, x65, x205000, x205001, x205002, x205003, x205004, x206000, x206001, x206002, x206003, x206004 => if x65 = true then (some false) else (plaitinglaw14_QueueApart.l2 k x1 0 x205000 x205001 x205002 x205003 x205004 x206000 x206001 x206002 x206003 x206004)
def plaitinglaw14_QueueApart.l2 : Nat → List Int → Int → Int → Int → Int → Int → Int → Int → Int → Int → Int → Int → Option (Bool)
  | 0, _, _, _, _, _, _, _, _, _, _, _, _ => none
  | k + 1, x1, x9, x205000, x205001, x205002, x205003, x205004, x206000, x206001, x206002, x206003, x206004 => if x9 < 4 then ((queue_Queue_Send.f x205000 x205001 x205002 x205003 x205004 x9).bind fun bt246 => (if bt246.1 = 0 then (plaitinglaw14_QueueApart.l2 k x1 (wrap64 (x9 + 1)) bt246.2.1 bt246.2.2.1 bt246.2.2.2.1 bt246.2.2.2.2.1 bt246.2.2.2.2.2 x206000 x206001 x206002 x206003 x206004) else (some false))) else (plaitinglaw14_QueueApart.l3 k x1 0 x205000 x205001 x205002 x205003 x205004 x206000 x206001 x206002 x206003 x206004)
def plaitinglaw14_QueueApart.l3 : Nat → List Int → Int → Int → Int → Int → Int → Int → Int → Int → Int → Int → Int → Option (Bool)
  | 0, _, _, _, _, _, _, _, _, _, _, _, _ => none
  | k + 1, x1, x10, x205000, x205001, x205002, x205003, x205004, x206000, x206001, x206002, x206003, x206004 => if x10 < (mn (x1.length : Int) 4) then ((queue_Queue_Next.f x206000 x206001 x206002 x206003 x206004).bind fun bt252 => (if 0 ≤ x10 then (if x10 < (x1.length : Int) then ((plaitinglaw14_within.f (rd x1 x10) 256).bind fun t260 => (if (!(bt252.1 == 2) || (!(bt252.2.1 == t260))) = true then (some false) else (plaitinglaw14_QueueApart.l3 k x1 (wrap64 (x10 + 1)) x205000 x205001 x205002 x205003 x205004 bt252.2.2.1 bt252.2.2.2.1 bt252.2.2.2.2.1 bt252.2.2.2.2.2.1 bt252.2.2.2.2.2.2))) else (none)) else (none))) else ((queue_Queue_Send.f x205000 x205001 x205002 x205003 x205004 4).bind fun bt261 => (if bt261.1 = 8 then ((queue_Queue_Next.f bt261.2.1 bt261.2.2.1 bt261.2.2.2.1 bt261.2.2.2.2.1 bt261.2.2.2.2.2).bind fun bt267 => (if (bt267.1 == 2 && (bt267.2.1 == 0)) = true then ((queue_Queue_Len.f bt267.2.2.1 bt267.2.2.2.1 bt267.2.2.2.2.1 bt267.2.2.2.2.2.1 bt267.2.2.2.2.2.2).bind fun bt274 => (some (bt274.1 == 3))) else (some false))) else (some false)))
end
def plaitinglaw14_QueueApart.f (k : Nat) (l0 : List Int) (l1 : List Int) : Option (Bool) := (plaitinglaw14_known.f).bind fun t203 => (if t203 = true then (plaitinglaw14_QueueApart.l0 k l0 l1 0 0 0 0 0 0 0 0 0 0 0) else (some false))
theorem plaitinglaw14_QueueApart.mono_l : ∀ k, (∀ y0 y1 y2 y3 y4 y5 y6 y7 y8 y9 y10 y11 y12, LeO (plaitinglaw14_QueueApart.l0 k y0 y1 y2 y3 y4 y5 y6 y7 y8 y9 y10 y11 y12) (plaitinglaw14_QueueApart.l0 (k + 1) y0 y1 y2 y3 y4 y5 y6 y7 y8 y9 y10 y11 y12)) ∧ (∀ y0 y1 y2 y3 y4 y5 y6 y7 y8 y9 y10 y11, LeO (plaitinglaw14_QueueApart.l1 k y0 y1 y2 y3 y4 y5 y6 y7 y8 y9 y10 y11) (plaitinglaw14_QueueApart.l1 (k + 1) y0 y1 y2 y3 y4 y5 y6 y7 y8 y9 y10 y11)) ∧ (∀ y0 y1 y2 y3 y4 y5 y6 y7 y8 y9 y10 y11, LeO (plaitinglaw14_QueueApart.j2 k y0 y1 y2 y3 y4 y5 y6 y7 y8 y9 y10 y11) (plaitinglaw14_QueueApart.j2 (k + 1) y0 y1 y2 y3 y4 y5 y6 y7 y8 y9 y10 y11)) ∧ (∀ y0 y1 y2 y3 y4 y5 y6 y7 y8 y9 y10 y11, LeO (plaitinglaw14_QueueApart.l2 k y0 y1 y2 y3 y4 y5 y6 y7 y8 y9 y10 y11) (plaitinglaw14_QueueApart.l2 (k + 1) y0 y1 y2 y3 y4 y5 y6 y7 y8 y9 y10 y11)) ∧ (∀ y0 y1 y2 y3 y4 y5 y6 y7 y8 y9 y10 y11, LeO (plaitinglaw14_QueueApart.l3 k y0 y1 y2 y3 y4 y5 y6 y7 y8 y9 y10 y11) (plaitinglaw14_QueueApart.l3 (k + 1) y0 y1 y2 y3 y4 y5 y6 y7 y8 y9 y10 y11))
  | 0 => ⟨fun _ _ _ _ _ _ _ _ _ _ _ _ _ r h => by simp [plaitinglaw14_QueueApart.l0] at h, fun _ _ _ _ _ _ _ _ _ _ _ _ r h => by simp [plaitinglaw14_QueueApart.l1] at h, fun _ _ _ _ _ _ _ _ _ _ _ _ r h => by simp [plaitinglaw14_QueueApart.j2] at h, fun _ _ _ _ _ _ _ _ _ _ _ _ r h => by simp [plaitinglaw14_QueueApart.l2] at h, fun _ _ _ _ _ _ _ _ _ _ _ _ r h => by simp [plaitinglaw14_QueueApart.l3] at h⟩
  | k + 1 => by
    obtain ⟨ih0, ih1, ih2, ih3, ih4⟩ := plaitinglaw14_QueueApart.mono_l k
    refine ⟨?_, ?_, ?_, ?_, ?_⟩
    · intro y0 y1 y2 y3 y4 y5 y6 y7 y8 y9 y10 y11 y12
      unfold plaitinglaw14_QueueApart.l0
      repeat' first
      | (with_reducible exact ih0 _ _ _ _ _ _ _ _ _ _ _ _ _)
      | (with_reducible exact ih1 _ _ _ _ _ _ _ _ _ _ _ _)
      | (with_reducible exact ih2 _ _ _ _ _ _ _ _ _ _ _ _)
      | (with_reducible exact ih3 _ _ _ _ _ _ _ _ _ _ _ _)
      | (with_reducible exact ih4 _ _ _ _ _ _ _ _ _ _ _ _)
      | (with_reducible exact LeO.refl _)
      | (with_reducible exact LeO.none _)
      | (with_reducible refine LeO.ite ?_ ?_)
      | (with_reducible refine LeO.bind ?_ (fun _ => ?_))
      | exact ih0 _ _ _ _ _ _ _ _ _ _ _ _ _
      | exact ih1 _ _ _ _ _ _ _ _ _ _ _ _
      | exact ih2 _ _ _ _ _ _ _ _ _ _ _ _
      | exact ih3 _ _ _ _ _ _ _ _ _ _ _ _
      | exact ih4 _ _ _ _ _ _ _ _ _ _ _ _
      | exact LeO.none _
      | refine LeO.ite ?_ ?_
      | refine LeO.bind ?_ (fun _ => ?_)
    · intro y0 y1 y2 y3 y4 y5 y6 y7 y8 y9 y10 y11
      unfold plaitinglaw14_QueueApart.l1
      repeat' first
      | (with_reducible exact ih0 _ _ _ _ _ _ _ _ _ _ _ _ _)
      | (with_reducible exact ih1 _ _ _ _ _ _ _ _ _ _ _ _)
      | (with_reducible exact ih2 _ _ _ _ _ _ _ _ _ _ _ _)
      | (with_reducible exact ih3 _ _ _ _ _ _ _ _ _ _ _ _)
      | (with_reducible exact ih4 _ _ _ _ _ _ _ _ _ _ _ _)
      | (with_reducible exact LeO.refl _)
      | (with_reducible exact LeO.none _)
      | (with_reducible refine LeO.ite ?_ ?_)
      | (with_reducible refine LeO.bind ?_ (fun _ => ?_))
      | exact ih0 _ _ _ _ _ _ _ _ _ _ _ _ _
      | exact ih1 _ _ _ _ _ _ _ _ _ _ _ _
      | exact ih2 _ _ _ _ _ _ _ _ _ _ _ _
      | exact ih3 _ _ _ _ _ _ _ _ _ _ _ _
      | exact ih4 _ _ _ _ _ _ _ _ _ _ _ _
      | exact LeO.none _
      | refine LeO.ite ?_ ?_
      | refine LeO.bind ?_ (fun _ => ?_)
    · intro y0 y1 y2 y3 y4 y5 y6 y7 y8 y9 y10 y11
      unfold plaitinglaw14_QueueApart.j2
      repeat' first
      | (with_reducible exact ih0 _ _ _ _ _ _ _ _ _ _ _ _ _)
      | (with_reducible exact ih1 _ _ _ _ _ _ _ _ _ _ _ _)
      | (with_reducible exact ih2 _ _ _ _ _ _ _ _ _ _ _ _)
      | (with_reducible exact ih3 _ _ _ _ _ _ _ _ _ _ _ _)
      | (with_reducible exact ih4 _ _ _ _ _ _ _ _ _ _ _ _)
      | (with_reducible exact LeO.refl _)
      | (with_reducible exact LeO.none _)
      | (with_reducible refine LeO.ite ?_ ?_)
      | (with_reducible refine LeO.bind ?_ (fun _ => ?_))
      | exact ih0 _ _ _ _ _ _ _ _ _ _ _ _ _
      | exact ih1 _ _ _ _ _ _ _ _ _ _ _ _
      | exact ih2 _ _ _ _ _ _ _ _ _ _ _ _
      | exact ih3 _ _ _ _ _ _ _ _ _ _ _ _
      | exact ih4 _ _ _ _ _ _ _ _ _ _ _ _
      | exact LeO.none _
      | refine LeO.ite ?_ ?_
      | refine LeO.bind ?_ (fun _ => ?_)
    · intro y0 y1 y2 y3 y4 y5 y6 y7 y8 y9 y10 y11
      unfold plaitinglaw14_QueueApart.l2
      repeat' first
      | (with_reducible exact ih0 _ _ _ _ _ _ _ _ _ _ _ _ _)
      | (with_reducible exact ih1 _ _ _ _ _ _ _ _ _ _ _ _)
      | (with_reducible exact ih2 _ _ _ _ _ _ _ _ _ _ _ _)
      | (with_reducible exact ih3 _ _ _ _ _ _ _ _ _ _ _ _)
      | (with_reducible exact ih4 _ _ _ _ _ _ _ _ _ _ _ _)
      | (with_reducible exact LeO.refl _)
      | (with_reducible exact LeO.none _)
      | (with_reducible refine LeO.ite ?_ ?_)
      | (with_reducible refine LeO.bind ?_ (fun _ => ?_))
      | exact ih0 _ _ _ _ _ _ _ _ _ _ _ _ _
      | exact ih1 _ _ _ _ _ _ _ _ _ _ _ _
      | exact ih2 _ _ _ _ _ _ _ _ _ _ _ _
      | exact ih3 _ _ _ _ _ _ _ _ _ _ _ _
      | exact ih4 _ _ _ _ _ _ _ _ _ _ _ _
      | exact LeO.none _
      | refine LeO.ite ?_ ?_
      | refine LeO.bind ?_ (fun _ => ?_)
    · intro y0 y1 y2 y3 y4 y5 y6 y7 y8 y9 y10 y11
      unfold plaitinglaw14_QueueApart.l3
      repeat' first
      | (with_reducible exact ih0 _ _ _ _ _ _ _ _ _ _ _ _ _)
      | (with_reducible exact ih1 _ _ _ _ _ _ _ _ _ _ _ _)
      | (with_reducible exact ih2 _ _ _ _ _ _ _ _ _ _ _ _)
      | (with_reducible exact ih3 _ _ _ _ _ _ _ _ _ _ _ _)
      | (with_reducible exact ih4 _ _ _ _ _ _ _ _ _ _ _ _)
      | (with_reducible exact LeO.refl _)
      | (with_reducible exact LeO.none _)
      | (with_reducible refine LeO.ite ?_ ?_)
      | (with_reducible refine LeO.bind ?_ (fun _ => ?_))
      | exact ih0 _ _ _ _ _ _ _ _ _ _ _ _ _
      | exact ih1 _ _ _ _ _ _ _ _ _ _ _ _
      | exact ih2 _ _ _ _ _ _ _ _ _ _ _ _
      | exact ih3 _ _ _ _ _ _ _ _ _ _ _ _
      | exact ih4 _ _ _ _ _ _ _ _ _ _ _ _
      | exact LeO.none _
      | refine LeO.ite ?_ ?_
      | refine LeO.bind ?_ (fun _ => ?_)
theorem plaitinglaw14_QueueApart.mono : ∀ a0 a1 k, LeO (plaitinglaw14_QueueApart.f k a0 a1) (plaitinglaw14_QueueApart.f (k + 1) a0 a1) := by
  intro a0 a1 k
  obtain ⟨ih0, ih1, ih2, ih3, ih4⟩ := plaitinglaw14_QueueApart.mono_l k
  unfold plaitinglaw14_QueueApart.f
  repeat' first
      | (with_reducible exact ih0 _ _ _ _ _ _ _ _ _ _ _ _ _)
      | (with_reducible exact ih1 _ _ _ _ _ _ _ _ _ _ _ _)
      | (with_reducible exact ih2 _ _ _ _ _ _ _ _ _ _ _ _)
      | (with_reducible exact ih3 _ _ _ _ _ _ _ _ _ _ _ _)
      | (with_reducible exact ih4 _ _ _ _ _ _ _ _ _ _ _ _)
      | (with_reducible exact LeO.refl _)
      | (with_reducible exact LeO.none _)
      | (with_reducible refine LeO.ite ?_ ?_)
      | (with_reducible refine LeO.bind ?_ (fun _ => ?_))
      | exact ih0 _ _ _ _ _ _ _ _ _ _ _ _ _
      | exact ih1 _ _ _ _ _ _ _ _ _ _ _ _
      | exact ih2 _ _ _ _ _ _ _ _ _ _ _ _
      | exact ih3 _ _ _ _ _ _ _ _ _ _ _ _
      | exact ih4 _ _ _ _ _ _ _ _ _ _ _ _
      | exact LeO.none _
      | refine LeO.ite ?_ ?_
      | refine LeO.bind ?_ (fun _ => ?_)
def plaitinglaw14_QueueApart.T25 : Bool × List (List Nat × List Nat) := (true, [([], []), ([0], [0]), ([], []), ([], []), ([2, 3], [2, 3]), ([4], [4]), ([5, 1], [5]), ([6], [6]), ([1, 7], [1, 7])])
def plaitinglaw14_QueueApart.B25 : List Nat := [0, 1, 0, 0, 12, 28, 63, 127, 255]
theorem plaitinglaw14_QueueApart.tab25 : rtab .any (opsOf Try.f6 25) = plaitinglaw14_QueueApart.T25 := by kernel_rfl
theorem plaitinglaw14_QueueApart.bits25 : waitsOk plaitinglaw14_QueueApart.T25.2 plaitinglaw14_QueueApart.B25 = true := by kernel_rfl
set_option maxHeartbeats 8000000 in
set_option maxRecDepth 100000 in
theorem plaitinglaw14_QueueApart.calls (k : Nat) (A0 : Option Addr) (c0 : Nat) (l0 : List Int) (A1 : Option Addr) (c1 : Nat) (l1 : List Int) (r : Bool) (w : World) (hr0 : Kd.C (Kd.int .i64) w A0 l0.length l0) (hc0 : l0.length ≤ c0) (hr1 : Kd.C (Kd.int .i64) w A1 l1.length l1) (hc1 : l1.length ≤ c1) (h : plaitinglaw14_QueueApart.f k l0 l1 = some r) :
    Calls Try.prog 6 #[.slice A0 l0.length c0, .slice A1 l1.length c1] w fun e w' => e = .returned (.bool r) ∧ Below w.heap.size w w' := by
  have hu27 := Try.underlying27
  have hu33 := Try.underlying33
  have HR0 := Aside0.mk hr0
  have HC0 := Aside0.mk hc0
  clear hr0 hc0
  have HR1 := Aside0.mk hr1
  have HC1 := Aside0.mk hc1
  clear hr1 hc1
  have HB := Aside0.mk (Below.refl w.heap.size w)
  have H : ((plaitinglaw14_known.f).bind fun t203 => (if t203 = true then (plaitinglaw14_QueueApart.l0 k l0 l1 0 0 0 0 0 0 0 0 0 0 0) else (some false))) = some r := h
  clear h
  replace H := Option.bind_eq_some_iff.mp H
  obtain ⟨t203, A30, H⟩ := H
  replace H : (if t203 = true then (plaitinglaw14_QueueApart.l0 k l0 l1 0 0 0 0 0 0 0 0 0 0 0) else (some false)) = some r := H
  have A3 := Aside0.mk A30
  clear A30
  by_cases c4 : t203 = true
  · subst c4
    have H1 : (plaitinglaw14_QueueApart.l0 k l0 l1 0 0 0 0 0 0 0 0 0 0 0) = some r := by rw [if_pos rfl] at H; exact H
    clear H
    have H := H1
    clear H1
    have H' := Aside0.mk H
    clear H
    go_enter Try.func6, Try.ntmps6
    go_wp2_with (first | ((with_reducible refine gate_callee (f := 23) rfl ?_); refine goesL_ (some 11) rfl rfl Try.func23 (by kernel_rfl) rfl #[] rfl (by (try simp only [List.map_toArray, List.map_cons, List.map_nil]); first | done | rfl | (simp only [List.length_drop, List.length_take]; rfl)) ?_; (with_reducible refine (plaitinglaw14_known.calls  true _ A3.out).mono ?_); rintro e w5 ⟨rfl, hb⟩; refine ⟨_, rfl, ?_⟩; have n0_ := Aside0.mk (below_step (by repeat (first | (with_reducible first | exact HB.out | apply below_alloc | apply pw_below_drewN | apply below_drew1) | exact HB.out)) hb); clear HB; have HB := n0_; clear n0_; (try clear hb); (try clear hb2); (try clear hk); (try clear hi)) | ((with_reducible refine gate_dst (N := 14) rfl ?_); (try (refine gate_guard (by rfl) ?_; dsimp only)); refine box_event ?hg (N := 14) ?hd (cs := #[.int .i64 0, .int .i64 0, .int .i64 0, .int .i64 0, .int .i64 0]) (t := 27) ?hr ?_; (case hd => rfl); (case hg => rfl); (case hr => first | (go_simp; done) | (go_simp; rfl)); intro gb204 hg w6 hbox hb; have n0_ := Aside0.mk (below_step (by repeat (first | (with_reducible first | exact HB.out | apply below_alloc | apply pw_below_drewN | apply below_drew1) | exact HB.out)) hb); have n1_ := Aside0.mk ((show IsS27 w w6 gb204 0 0 0 0 0 from ⟨hbox, by rw [hg]; exact (below_size (by repeat (first | (with_reducible first | exact HB.out | apply below_alloc | apply pw_below_drewN | apply below_drew1) | exact HB.out)))⟩)); have n2_ := Aside0.mk ((by rw [hg]; exact (below_size (by repeat (first | (with_reducible first | exact HB.out | apply below_alloc | apply pw_below_drewN | apply below_drew1) | exact HB.out))) : w.heap.size ≤ gb204)); have n3_ := Aside0.mk ((by rw [hg]; exact (below_size (by repeat (first | (with_reducible first | exact HB.out | apply below_alloc | apply pw_below_drewN | apply below_drew1) | exact HB.out))) : w.heap.size ≤ gb204)); clear HB; have HB := n0_; have HI204 := n1_; have GW204 := n2_; have GE204 := n3_; clear n0_ n1_ n2_ n3_; clear hb hbox hg) | ((with_reducible refine gate_dst (N := 16) rfl ?_); (try (refine gate_guard (by rfl) ?_; dsimp only)); refine box_event ?hg (N := 16) ?hd (cs := #[.int .i64 0, .int .i64 0, .int .i64 0, .int .i64 0, .int .i64 0]) (t := 27) ?hr ?_; (case hd => rfl); (case hg => rfl); (case hr => first | (go_simp; done) | (go_simp; rfl)); intro gb205 hg w7 hbox hb; have n0_ := Aside0.mk (IsS27.below (by repeat (first | (with_reducible first | exact HI204.out | apply IsS27.alloc | apply IsS27.drewN | apply IsS27.drew | apply IsS27.set_0 | apply IsS27.set_1 | apply IsS27.set_2 | apply IsS27.set_3 | apply IsS27.set_4) | exact HI204.out)) hb); have n1_ := Aside0.mk (below_step (by repeat (first | (with_reducible first | exact HB.out | apply below_alloc | apply pw_below_drewN | apply below_drew1 | refine below_set ?_ (IsS27.ge HI204.out)) | exact HB.out)) hb); have n2_ := Aside0.mk ((show IsS27 w w7 gb205 0 0 0 0 0 from ⟨hbox, by rw [hg]; exact (below_size (by repeat (first | (with_reducible first | exact HB.out | apply below_alloc | apply pw_below_drewN | apply below_drew1 | refine below_set ?_ (IsS27.ge HI204.out)) | exact HB.out)))⟩)); have n3_ := Aside0.mk ((by rw [hg]; exact (below_size (by repeat (first | (with_reducible first | exact HB.out | apply below_alloc | apply pw_below_drewN | apply below_drew1 | refine below_set ?_ (IsS27.ge HI204.out)) | exact HB.out))) : w.heap.size ≤ gb205)); have n4_ := Aside0.mk ((by rw [hg]; exact (below_size (by repeat (first | (with_reducible first | exact HB.out | apply below_alloc | apply pw_below_drewN | apply below_drew1 | refine below_set ?_ (IsS27.ge HI204.out)) | exact HB.out))) : w.heap.size ≤ gb205)); have n5_ := Aside0.mk ((by rw [hg]; exact Nat.ne_of_lt (IsS27.lt (show IsS27 w _ gb204 0 0 0 0 0 from by repeat (first | (with_reducible first | exact HI204.out | apply IsS27.alloc | apply IsS27.drewN | apply IsS27.drew | apply IsS27.set_0 | apply IsS27.set_1 | apply IsS27.set_2 | apply IsS27.set_3 | apply IsS27.set_4) | exact HI204.out))) : gb204 ≠ gb205)); have n6_ := Aside0.mk ((by rw [hg]; exact Nat.ne_of_gt (IsS27.lt (show IsS27 w _ gb204 0 0 0 0 0 from by repeat (first | (with_reducible first | exact HI204.out | apply IsS27.alloc | apply IsS27.drewN | apply IsS27.drew | apply IsS27.set_0 | apply IsS27.set_1 | apply IsS27.set_2 | apply IsS27.set_3 | apply IsS27.set_4) | exact HI204.out))) : gb205 ≠ gb204)); clear HI204; clear HB; have HI204 := n0_; have HB := n1_; have HI205 := n2_; have GW205 := n3_; have GE205 := n4_; have NB204_205 := n5_; have NB205_204 := n6_; clear n0_ n1_ n2_ n3_ n4_ n5_ n6_; clear hb hbox hg))
    go_loopg [7] k (fun kq v7 w' => ∃ (x7_1 : Int) (x205000_1 : Int) (x205001_1 : Int) (x205002_1 : Int) (x205003_1 : Int) (x205004_1 : Int), v7 = .int .i64 x7_1 ∧ Aside0 (plaitinglaw14_QueueApart.l0 kq l0 l1 x7_1 x205000_1 x205001_1 x205002_1 x205003_1 x205004_1 0 0 0 0 0 = some r) ∧ Aside0 (kq ≤ k) ∧ Aside0 (IsS27 w w' gb204 x205000_1 x205001_1 x205002_1 x205003_1 x205004_1) ∧ Aside0 (IsS27 w w' gb205 0 0 0 0 0) ∧ Aside0 (Below w.heap.size w w'))
    case atStart => exact ⟨(0), (0), (0), (0), (0), (0), (by first | rfl | (simp; done) | (simp [*]; done)), H', ⟨Nat.le_refl _⟩, ⟨by repeat (first | (with_reducible first | exact HI204.out | apply IsS27.alloc | apply IsS27.drewN | apply IsS27.drew | apply IsS27.set_0 | apply IsS27.set_1 | apply IsS27.set_2 | apply IsS27.set_3 | apply IsS27.set_4) | exact HI204.out)⟩, ⟨by repeat (first | (with_reducible first | exact HI205.out | apply IsS27.alloc | apply IsS27.drewN | apply IsS27.drew | apply IsS27.set_0 | apply IsS27.set_1 | apply IsS27.set_2 | apply IsS27.set_3 | apply IsS27.set_4) | exact HI205.out)⟩, ⟨by repeat (first | (with_reducible first | exact HB.out | apply below_alloc | apply pw_below_drewN | apply below_drew1 | refine below_set ?_ (IsS27.ge HI204.out) | refine below_set ?_ (IsS27.ge HI205.out)) | exact HB.out)⟩⟩
    case round =>
      clear H'
      try clear c1
      try clear c2
      try clear p2
      try clear c4
      try clear c6
      obtain ⟨x7_1, x205000_1, x205001_1, x205002_1, x205003_1, x205004_1, rfl, HA, HK1, HI204, HI205, HB⟩ := hrel
      cases gk with
      | zero => exact absurd HA.out (by simp [plaitinglaw14_QueueApart.l0])
      | succ k1 =>
        have H := HA.out
        clear HA
        simp only [plaitinglaw14_QueueApart.l0] at H
        obtain ⟨ji8, hji8⟩ : ∃ j_ : Int, (mn (l0.length : Int) 4) = j_ := ⟨_, rfl⟩
        replace H : (if x7_1 < (ji8) then (if 0 ≤ x7_1 then (if x7_1 < (l0.length : Int) then ((plaitinglaw14_within.f (rd l0 x7_1) 256).bind fun t207 => ((queue_Queue_Send.f x205000_1 x205001_1 x205002_1 x205003_1 x205004_1 t207).bind fun bt208 => (if bt208.1 = 0 then (plaitinglaw14_QueueApart.l0 k1 l0 l1 (wrap64 (x7_1 + 1)) bt208.2.1 bt208.2.2.1 bt208.2.2.2.1 bt208.2.2.2.2.1 bt208.2.2.2.2.2 0 0 0 0 0) else (some false)))) else (none)) else (none)) else (plaitinglaw14_QueueApart.l1 k1 l1 0 x205000_1 x205001_1 x205002_1 x205003_1 x205004_1 0 0 0 0 0)) = some r := by first | (rw [hji8] at H; exact H) | (simp only [hji8] at H ⊢; exact H)
        have hji8_ : (if 4 < (l0.length : Int) then 4 else (l0.length : Int)) = ji8 := hji8
        by_cases c9 : x7_1 < (ji8)
        · rw [if_pos c9] at H
          have c9b0 : decide (x7_1 < (ji8)) = true := decide_eq_true c9
          clear c9
          by_cases c10 : 0 ≤ x7_1
          · rw [if_pos c10] at H
            have c10b0 : decide (0 ≤ x7_1) = true := decide_eq_true c10
            clear c10
            by_cases c11 : x7_1 < (l0.length : Int)
            · rw [if_pos c11] at H
              have c11b0 : decide (x7_1 < (l0.length : Int)) = true := decide_eq_true c11
              clear c11
              replace H := Option.bind_eq_some_iff.mp H
              obtain ⟨t207, A120, H⟩ := H
              replace H : ((queue_Queue_Send.f x205000_1 x205001_1 x205002_1 x205003_1 x205004_1 t207).bind fun bt208 => (if bt208.1 = 0 then (plaitinglaw14_QueueApart.l0 k1 l0 l1 (wrap64 (x7_1 + 1)) bt208.2.1 bt208.2.2.1 bt208.2.2.2.1 bt208.2.2.2.2.1 bt208.2.2.2.2.2 0 0 0 0 0) else (some false))) = some r := H
              have A12 := Aside0.mk A120
              clear A120
              replace H := Option.bind_eq_some_iff.mp H
              obtain ⟨⟨t208, t209, t210, t211, t212, t213⟩, A130, H⟩ := H
              replace H : (if t208 = 0 then (plaitinglaw14_QueueApart.l0 k1 l0 l1 (wrap64 (x7_1 + 1)) t209 t210 t211 t212 t213 0 0 0 0 0) else (some false)) = some r := H
              have A13 := Aside0.mk A130
              clear A130
              by_cases c14 : t208 = 0
              · rw [if_pos c14] at H
                have c14b0 : (t208 == 0) = true := beq_iff_eq.mpr c14
                have c14b1 : (t208 != 0) = false := bne_eq_false_iff_eq.mpr c14
                clear c14
                have H' := Aside0.mk H
                clear H
                have p206 : 0 ≤ (x7_1 : Int) := of_decide_eq_true (by first | (with_reducible assumption) | assumption)
                have q206 : x7_1 < (l0.length : Int) := of_decide_eq_true (by first | (with_reducible assumption) | assumption)
                obtain ⟨ad206, e206, hx206_0⟩ := Kd.at_int HR0.out x7_1 p206 q206
                cases e206
                replace hx206_0 := (HB.out.cell (World.block_lt_of_cell? w _ hx206_0)).trans hx206_0
                replace p206 := eq_true p206
                replace q206 := eq_true q206
                go_wp2_with (first | ((with_reducible refine gate_callee (f := 25) rfl ?_); refine goesL_ (some 29) rfl rfl Try.func25 (by kernel_rfl) rfl #[.int .i64 (rd l0 x7_1), .int .i64 256] rfl (by (try simp only [List.map_toArray, List.map_cons, List.map_nil]); first | done | rfl | (simp only [List.length_drop, List.length_take]; rfl)) ?_; (with_reducible refine (plaitinglaw14_within.calls (rd l0 x7_1) 256 t207 _ A12.out).mono ?_); rintro e w' ⟨rfl, ⟨nd, rfl⟩⟩; refine ⟨_, rfl, ?_⟩) | ((with_reducible refine gate_callee (f := 24) rfl ?_); refine goesL_ (some 30) rfl rfl Try.func24 (by kernel_rfl) rfl #[.pointer (some ⟨gb204, 0, none⟩), .int .i64 t207] rfl (by (try simp only [List.map_toArray, List.map_cons, List.map_nil]); first | done | rfl | (simp only [List.length_drop, List.length_take]; rfl)) ?_; (with_reducible refine (queue_Queue_Send.calls gb204 x205000_1 x205001_1 x205002_1 x205003_1 x205004_1 t207 t208 t209 t210 t211 t212 t213 w _ ?side1 ?side2 A13.out).mono ?_); (case side1 => repeat (first | (with_reducible first | exact HI204.out | apply IsS27.alloc | apply IsS27.drewN | apply IsS27.drew | apply IsS27.set_0 | apply IsS27.set_1 | apply IsS27.set_2 | apply IsS27.set_3 | apply IsS27.set_4) | exact HI204.out)); (case side2 => repeat (first | (with_reducible first | exact HB.out | apply below_alloc | apply pw_below_drewN | apply below_drew1 | refine below_set ?_ (IsS27.ge HI204.out) | refine below_set ?_ (IsS27.ge HI205.out)) | exact HB.out)); rintro e w15 ⟨rfl, hi, hb, hk⟩; refine ⟨_, rfl, ?_⟩; have n0_ := Aside0.mk ((show IsS27 w w15 gb205 0 0 0 0 0 from ⟨KeepBut.blk hk (show IsS27 w _ gb205 0 0 0 0 0 from by repeat (first | (with_reducible first | exact HI205.out | apply IsS27.alloc | apply IsS27.drewN | apply IsS27.drew | apply IsS27.set_0 | apply IsS27.set_1 | apply IsS27.set_2 | apply IsS27.set_3 | apply IsS27.set_4) | exact HI205.out)).1 NB205_204.out (by simp), (show IsS27 w _ gb205 0 0 0 0 0 from by repeat (first | (with_reducible first | exact HI205.out | apply IsS27.alloc | apply IsS27.drewN | apply IsS27.drew | apply IsS27.set_0 | apply IsS27.set_1 | apply IsS27.set_2 | apply IsS27.set_3 | apply IsS27.set_4) | exact HI205.out)).2⟩)); have n1_ := Aside0.mk (hb); have n2_ := Aside0.mk (hi); clear HI205; clear HB; clear HI204; have HI205 := n0_; have HB := n1_; have HI204 := n2_; clear n0_ n1_ n2_; (try clear hb); (try clear hb2); (try clear hk); (try clear hi)))
                go_roundg k1
                case measure => have := HK1.out; omega
                case rel => exact ⟨(wrap64 (x7_1 + 1)), (t209), (t210), (t211), (t212), (t213), (by first | rfl | (simp; done) | (simp [*]; done)), H', ⟨by have := HK1.out; omega⟩, ⟨by repeat (first | (with_reducible first | exact HI204.out | apply IsS27.alloc | apply IsS27.drewN | apply IsS27.drew | apply IsS27.set_0 | apply IsS27.set_1 | apply IsS27.set_2 | apply IsS27.set_3 | apply IsS27.set_4) | exact HI204.out)⟩, ⟨by repeat (first | (with_reducible first | exact HI205.out | apply IsS27.alloc | apply IsS27.drewN | apply IsS27.drew | apply IsS27.set_0 | apply IsS27.set_1 | apply IsS27.set_2 | apply IsS27.set_3 | apply IsS27.set_4) | exact HI205.out)⟩, ⟨by repeat (first | (with_reducible first | exact HB.out | apply below_alloc | apply pw_below_drewN | apply below_drew1 | refine below_set ?_ (IsS27.ge HI204.out) | refine below_set ?_ (IsS27.ge HI205.out)) | exact HB.out)⟩⟩
              · rw [if_neg c14] at H
                have c14b0 : (t208 == 0) = false := beq_eq_false_iff_ne.mpr c14
                have c14b1 : (t208 != 0) = true := bne_iff_ne.mpr c14
                obtain rfl := Option.some.inj H
                have p206 : 0 ≤ (x7_1 : Int) := of_decide_eq_true (by first | (with_reducible assumption) | assumption)
                have q206 : x7_1 < (l0.length : Int) := of_decide_eq_true (by first | (with_reducible assumption) | assumption)
                obtain ⟨ad206, e206, hx206_0⟩ := Kd.at_int HR0.out x7_1 p206 q206
                cases e206
                replace hx206_0 := (HB.out.cell (World.block_lt_of_cell? w _ hx206_0)).trans hx206_0
                replace p206 := eq_true p206
                replace q206 := eq_true q206
                go_wp2_with (first | ((with_reducible refine gate_callee (f := 25) rfl ?_); refine goesL_ (some 29) rfl rfl Try.func25 (by kernel_rfl) rfl #[.int .i64 (rd l0 x7_1), .int .i64 256] rfl (by (try simp only [List.map_toArray, List.map_cons, List.map_nil]); first | done | rfl | (simp only [List.length_drop, List.length_take]; rfl)) ?_; (with_reducible refine (plaitinglaw14_within.calls (rd l0 x7_1) 256 t207 _ A12.out).mono ?_); rintro e w' ⟨rfl, ⟨nd, rfl⟩⟩; refine ⟨_, rfl, ?_⟩) | ((with_reducible refine gate_callee (f := 24) rfl ?_); refine goesL_ (some 30) rfl rfl Try.func24 (by kernel_rfl) rfl #[.pointer (some ⟨gb204, 0, none⟩), .int .i64 t207] rfl (by (try simp only [List.map_toArray, List.map_cons, List.map_nil]); first | done | rfl | (simp only [List.length_drop, List.length_take]; rfl)) ?_; (with_reducible refine (queue_Queue_Send.calls gb204 x205000_1 x205001_1 x205002_1 x205003_1 x205004_1 t207 t208 t209 t210 t211 t212 t213 w _ ?side1 ?side2 A13.out).mono ?_); (case side1 => repeat (first | (with_reducible first | exact HI204.out | apply IsS27.alloc | apply IsS27.drewN | apply IsS27.drew | apply IsS27.set_0 | apply IsS27.set_1 | apply IsS27.set_2 | apply IsS27.set_3 | apply IsS27.set_4) | exact HI204.out)); (case side2 => repeat (first | (with_reducible first | exact HB.out | apply below_alloc | apply pw_below_drewN | apply below_drew1 | refine below_set ?_ (IsS27.ge HI204.out) | refine below_set ?_ (IsS27.ge HI205.out)) | exact HB.out)); rintro e w16 ⟨rfl, hi, hb, hk⟩; refine ⟨_, rfl, ?_⟩; have n0_ := Aside0.mk ((show IsS27 w w16 gb205 0 0 0 0 0 from ⟨KeepBut.blk hk (show IsS27 w _ gb205 0 0 0 0 0 from by repeat (first | (with_reducible first | exact HI205.out | apply IsS27.alloc | apply IsS27.drewN | apply IsS27.drew | apply IsS27.set_0 | apply IsS27.set_1 | apply IsS27.set_2 | apply IsS27.set_3 | apply IsS27.set_4) | exact HI205.out)).1 NB205_204.out (by simp), (show IsS27 w _ gb205 0 0 0 0 0 from by repeat (first | (with_reducible first | exact HI205.out | apply IsS27.alloc | apply IsS27.drewN | apply IsS27.drew | apply IsS27.set_0 | apply IsS27.set_1 | apply IsS27.set_2 | apply IsS27.set_3 | apply IsS27.set_4) | exact HI205.out)).2⟩)); have n1_ := Aside0.mk (hb); have n2_ := Aside0.mk (hi); clear HI205; clear HB; clear HI204; have HI205 := n0_; have HB := n1_; have HI204 := n2_; clear n0_ n1_ n2_; (try clear hb); (try clear hb2); (try clear hk); (try clear hi)))
                go_ret
                exact ⟨by first | rfl | (simp [errW_none, errW_some] <;> rfl) | (simp only [← hji8]; first | rfl | (simp [errW_none, errW_some] <;> rfl)) | (simp [*, errW_none, errW_some] <;> rfl), by repeat (first | (with_reducible first | exact HB.out | apply below_alloc | apply pw_below_drewN | apply below_drew1 | refine below_set ?_ (IsS27.ge HI204.out) | refine below_set ?_ (IsS27.ge HI205.out)) | exact HB.out)⟩
            · rw [if_neg c11] at H
              exact absurd H (by simp)
          · rw [if_neg c10] at H
            exact absurd H (by simp)
        · rw [if_neg c9] at H
          have c9b0 : decide (x7_1 < (ji8)) = false := decide_eq_false c9
          clear c9
          have H' := Aside0.mk H
          clear H
          go_wp2
          go_loopg [8] k1 (fun kq v8 w' => ∃ (x8_2 : Int) (x206000_2 : Int) (x206001_2 : Int) (x206002_2 : Int) (x206003_2 : Int) (x206004_2 : Int), v8 = .int .i64 x8_2 ∧ Aside0 (plaitinglaw14_QueueApart.l1 kq l1 x8_2 x205000_1 x205001_1 x205002_1 x205003_1 x205004_1 x206000_2 x206001_2 x206002_2 x206003_2 x206004_2 = some r) ∧ Aside0 (kq ≤ k1) ∧ Aside0 (IsS27 w w' gb204 x205000_1 x205001_1 x205002_1 x205003_1 x205004_1) ∧ Aside0 (IsS27 w w' gb205 x206000_2 x206001_2 x206002_2 x206003_2 x206004_2) ∧ Aside0 (Below w.heap.size w w'))
          case atStart => exact ⟨(0), (0), (0), (0), (0), (0), (by first | rfl | (simp; done) | (simp [*]; done)), H', ⟨Nat.le_refl _⟩, ⟨by repeat (first | (with_reducible first | exact HI204.out | apply IsS27.alloc | apply IsS27.drewN | apply IsS27.drew | apply IsS27.set_0 | apply IsS27.set_1 | apply IsS27.set_2 | apply IsS27.set_3 | apply IsS27.set_4) | exact HI204.out)⟩, ⟨by repeat (first | (with_reducible first | exact HI205.out | apply IsS27.alloc | apply IsS27.drewN | apply IsS27.drew | apply IsS27.set_0 | apply IsS27.set_1 | apply IsS27.set_2 | apply IsS27.set_3 | apply IsS27.set_4) | exact HI205.out)⟩, ⟨by repeat (first | (with_reducible first | exact HB.out | apply below_alloc | apply pw_below_drewN | apply below_drew1 | refine below_set ?_ (IsS27.ge HI204.out) | refine below_set ?_ (IsS27.ge HI205.out)) | exact HB.out)⟩⟩
          case round =>
            clear H'
            try clear c1
            try clear c2
            try clear p2
            try clear q2
            try clear hx2
            try clear c4
            try clear c6
            try clear p6
            try clear c9
            try clear c9b0
            try clear c10
            try clear c10b0
            try clear c11
            try clear c11b0
            try clear c14
            try clear c14b0
            try clear c14b1
            try clear hx206_0
            try clear p2
            try clear p206
            try clear q206
            obtain ⟨x8_2, x206000_2, x206001_2, x206002_2, x206003_2, x206004_2, rfl, HA, HK2, HI204, HI205, HB⟩ := hrel
            cases gk with
            | zero => exact absurd HA.out (by simp [plaitinglaw14_QueueApart.l1])
            | succ k2 =>
              have H := HA.out
              clear HA
              simp only [plaitinglaw14_QueueApart.l1] at H
              obtain ⟨ji17, hji17⟩ : ∃ j_ : Int, (mn (l1.length : Int) 4) = j_ := ⟨_, rfl⟩
              replace H : (if x8_2 < (ji17) then (if 0 ≤ x8_2 then (if x8_2 < (l1.length : Int) then ((plaitinglaw14_within.f (rd l1 x8_2) 256).bind fun t215 => ((queue_Queue_Send.f x206000_2 x206001_2 x206002_2 x206003_2 x206004_2 t215).bind fun bt216 => (if bt216.1 = 0 then (plaitinglaw14_QueueApart.l1 k2 l1 (wrap64 (x8_2 + 1)) x205000_1 x205001_1 x205002_1 x205003_1 x205004_1 bt216.2.1 bt216.2.2.1 bt216.2.2.2.1 bt216.2.2.2.2.1 bt216.2.2.2.2.2) else (some false)))) else (none)) else (none)) else ((queue_Queue_Clear.f x205000_1 x205001_1 x205002_1 x205003_1 x205004_1).bind fun bt222 => ((queue_Queue_Len.f bt222.1 bt222.2.1 bt222.2.2.1 bt222.2.2.2.1 bt222.2.2.2.2).bind fun bt227 => (if bt227.1 = 0 then ((queue_Queue_Len.f x206000_2 x206001_2 x206002_2 x206003_2 x206004_2).bind fun bt233 => (if bt233.1 = (ji17) then ((queue_Queue_Next.f bt227.2.1 bt227.2.2.1 bt227.2.2.2.1 bt227.2.2.2.2.1 bt227.2.2.2.2.2).bind fun bt239 => (plaitinglaw14_QueueApart.j2 k2 l1 (!(bt239.1 == 1) || (!(bt239.2.1 == 0))) bt239.2.2.1 bt239.2.2.2.1 bt239.2.2.2.2.1 bt239.2.2.2.2.2.1 bt239.2.2.2.2.2.2 bt233.2.1 bt233.2.2.1 bt233.2.2.2.1 bt233.2.2.2.2.1 bt233.2.2.2.2.2)) else (plaitinglaw14_QueueApart.j2 k2 l1 true bt227.2.1 bt227.2.2.1 bt227.2.2.2.1 bt227.2.2.2.2.1 bt227.2.2.2.2.2 bt233.2.1 bt233.2.2.1 bt233.2.2.2.1 bt233.2.2.2.2.1 bt233.2.2.2.2.2))) else (plaitinglaw14_QueueApart.j2 k2 l1 true bt227.2.1 bt227.2.2.1 bt227.2.2.2.1 bt227.2.2.2.2.1 bt227.2.2.2.2.2 x206000_2 x206001_2 x206002_2 x206003_2 x206004_2))))) = some r := by first | (rw [hji17] at H; exact H) | (simp only [hji17] at H ⊢; exact H)
              have hji17_ : (if 4 < (l1.length : Int) then 4 else (l1.length : Int)) = ji17 := hji17
              by_cases c18 : x8_2 < (ji17)
              · rw [if_pos c18] at H
                have c18b0 : decide (x8_2 < (ji17)) = true := decide_eq_true c18
                clear c18
                by_cases c19 : 0 ≤ x8_2
                · rw [if_pos c19] at H
                  have c19b0 : decide (0 ≤ x8_2) = true := decide_eq_true c19
                  clear c19
                  by_cases c20 : x8_2 < (l1.length : Int)
                  · rw [if_pos c20] at H
                    have c20b0 : decide (x8_2 < (l1.length : Int)) = true := decide_eq_true c20
                    clear c20
                    replace H := Option.bind_eq_some_iff.mp H
                    obtain ⟨t215, A210, H⟩ := H
                    replace H : ((queue_Queue_Send.f x206000_2 x206001_2 x206002_2 x206003_2 x206004_2 t215).bind fun bt216 => (if bt216.1 = 0 then (plaitinglaw14_QueueApart.l1 k2 l1 (wrap64 (x8_2 + 1)) x205000_1 x205001_1 x205002_1 x205003_1 x205004_1 bt216.2.1 bt216.2.2.1 bt216.2.2.2.1 bt216.2.2.2.2.1 bt216.2.2.2.2.2) else (some false))) = some r := H
                    have A21 := Aside0.mk A210
                    clear A210
                    replace H := Option.bind_eq_some_iff.mp H
                    obtain ⟨⟨t216, t217, t218, t219, t220, t221⟩, A220, H⟩ := H
                    replace H : (if t216 = 0 then (plaitinglaw14_QueueApart.l1 k2 l1 (wrap64 (x8_2 + 1)) x205000_1 x205001_1 x205002_1 x205003_1 x205004_1 t217 t218 t219 t220 t221) else (some false)) = some r := H
                    have A22 := Aside0.mk A220
                    clear A220
                    by_cases c23 : t216 = 0
                    · rw [if_pos c23] at H
                      have c23b0 : (t216 == 0) = true := beq_iff_eq.mpr c23
                      have c23b1 : (t216 != 0) = false := bne_eq_false_iff_eq.mpr c23
                      clear c23
                      have H' := Aside0.mk H
                      clear H
                      have p214 : 0 ≤ (x8_2 : Int) := of_decide_eq_true (by first | (with_reducible assumption) | assumption)
                      have q214 : x8_2 < (l1.length : Int) := of_decide_eq_true (by first | (with_reducible assumption) | assumption)
                      obtain ⟨ad214, e214, hx214_0⟩ := Kd.at_int HR1.out x8_2 p214 q214
                      cases e214
                      replace hx214_0 := (HB.out.cell (World.block_lt_of_cell? w _ hx214_0)).trans hx214_0
                      replace p214 := eq_true p214
                      replace q214 := eq_true q214
                      go_wp2_with (first | ((with_reducible refine gate_callee (f := 25) rfl ?_); refine goesL_ (some 44) rfl rfl Try.func25 (by kernel_rfl) rfl #[.int .i64 (rd l1 x8_2), .int .i64 256] rfl (by (try simp only [List.map_toArray, List.map_cons, List.map_nil]); first | done | rfl | (simp only [List.length_drop, List.length_take]; rfl)) ?_; (with_reducible refine (plaitinglaw14_within.calls (rd l1 x8_2) 256 t215 _ A21.out).mono ?_); rintro e w' ⟨rfl, ⟨nd, rfl⟩⟩; refine ⟨_, rfl, ?_⟩) | ((with_reducible refine gate_callee (f := 24) rfl ?_); refine goesL_ (some 45) rfl rfl Try.func24 (by kernel_rfl) rfl #[.pointer (some ⟨gb205, 0, none⟩), .int .i64 t215] rfl (by (try simp only [List.map_toArray, List.map_cons, List.map_nil]); first | done | rfl | (simp only [List.length_drop, List.length_take]; rfl)) ?_; (with_reducible refine (queue_Queue_Send.calls gb205 x206000_2 x206001_2 x206002_2 x206003_2 x206004_2 t215 t216 t217 t218 t219 t220 t221 w _ ?side1 ?side2 A22.out).mono ?_); (case side1 => repeat (first | (with_reducible first | exact HI205.out | apply IsS27.alloc | apply IsS27.drewN | apply IsS27.drew | apply IsS27.set_0 | apply IsS27.set_1 | apply IsS27.set_2 | apply IsS27.set_3 | apply IsS27.set_4) | exact HI205.out)); (case side2 => repeat (first | (with_reducible first | exact HB.out | apply below_alloc | apply pw_below_drewN | apply below_drew1 | refine below_set ?_ (IsS27.ge HI204.out) | refine below_set ?_ (IsS27.ge HI205.out)) | exact HB.out)); rintro e w24 ⟨rfl, hi, hb, hk⟩; refine ⟨_, rfl, ?_⟩; have n0_ := Aside0.mk ((show IsS27 w w24 gb204 x205000_1 x205001_1 x205002_1 x205003_1 x205004_1 from ⟨KeepBut.blk hk (show IsS27 w _ gb204 x205000_1 x205001_1 x205002_1 x205003_1 x205004_1 from by repeat (first | (with_reducible first | exact HI204.out | apply IsS27.alloc | apply IsS27.drewN | apply IsS27.drew | apply IsS27.set_0 | apply IsS27.set_1 | apply IsS27.set_2 | apply IsS27.set_3 | apply IsS27.set_4) | exact HI204.out)).1 NB204_205.out (by simp), (show IsS27 w _ gb204 x205000_1 x205001_1 x205002_1 x205003_1 x205004_1 from by repeat (first | (with_reducible first | exact HI204.out | apply IsS27.alloc | apply IsS27.drewN | apply IsS27.drew | apply IsS27.set_0 | apply IsS27.set_1 | apply IsS27.set_2 | apply IsS27.set_3 | apply IsS27.set_4) | exact HI204.out)).2⟩)); have n1_ := Aside0.mk (hb); have n2_ := Aside0.mk (hi); clear HI204; clear HB; clear HI205; have HI204 := n0_; have HB := n1_; have HI205 := n2_; clear n0_ n1_ n2_; (try clear hb); (try clear hb2); (try clear hk); (try clear hi)))
                      go_roundg k2
                      case measure => have := HK1.out; have := HK2.out; omega
                      case rel => exact ⟨(wrap64 (x8_2 + 1)), (t217), (t218), (t219), (t220), (t221), (by first | rfl | (simp; done) | (simp [*]; done)), H', ⟨by have := HK1.out; have := HK2.out; omega⟩, ⟨by repeat (first | (with_reducible first | exact HI204.out | apply IsS27.alloc | apply IsS27.drewN | apply IsS27.drew | apply IsS27.set_0 | apply IsS27.set_1 | apply IsS27.set_2 | apply IsS27.set_3 | apply IsS27.set_4) | exact HI204.out)⟩, ⟨by repeat (first | (with_reducible first | exact HI205.out | apply IsS27.alloc | apply IsS27.drewN | apply IsS27.drew | apply IsS27.set_0 | apply IsS27.set_1 | apply IsS27.set_2 | apply IsS27.set_3 | apply IsS27.set_4) | exact HI205.out)⟩, ⟨by repeat (first | (with_reducible first | exact HB.out | apply below_alloc | apply pw_below_drewN | apply below_drew1 | refine below_set ?_ (IsS27.ge HI204.out) | refine below_set ?_ (IsS27.ge HI205.out)) | exact HB.out)⟩⟩
                    · rw [if_neg c23] at H
                      have c23b0 : (t216 == 0) = false := beq_eq_false_iff_ne.mpr c23
                      have c23b1 : (t216 != 0) = true := bne_iff_ne.mpr c23
                      obtain rfl := Option.some.inj H
                      have p214 : 0 ≤ (x8_2 : Int) := of_decide_eq_true (by first | (with_reducible assumption) | assumption)
                      have q214 : x8_2 < (l1.length : Int) := of_decide_eq_true (by first | (with_reducible assumption) | assumption)
                      obtain ⟨ad214, e214, hx214_0⟩ := Kd.at_int HR1.out x8_2 p214 q214
                      cases e214
                      replace hx214_0 := (HB.out.cell (World.block_lt_of_cell? w _ hx214_0)).trans hx214_0
                      replace p214 := eq_true p214
                      replace q214 := eq_true q214
                      go_wp2_with (first | ((with_reducible refine gate_callee (f := 25) rfl ?_); refine goesL_ (some 44) rfl rfl Try.func25 (by kernel_rfl) rfl #[.int .i64 (rd l1 x8_2), .int .i64 256] rfl (by (try simp only [List.map_toArray, List.map_cons, List.map_nil]); first | done | rfl | (simp only [List.length_drop, List.length_take]; rfl)) ?_; (with_reducible refine (plaitinglaw14_within.calls (rd l1 x8_2) 256 t215 _ A21.out).mono ?_); rintro e w' ⟨rfl, ⟨nd, rfl⟩⟩; refine ⟨_, rfl, ?_⟩) | ((with_reducible refine gate_callee (f := 24) rfl ?_); refine goesL_ (some 45) rfl rfl Try.func24 (by kernel_rfl) rfl #[.pointer (some ⟨gb205, 0, none⟩), .int .i64 t215] rfl (by (try simp only [List.map_toArray, List.map_cons, List.map_nil]); first | done | rfl | (simp only [List.length_drop, List.length_take]; rfl)) ?_; (with_reducible refine (queue_Queue_Send.calls gb205 x206000_2 x206001_2 x206002_2 x206003_2 x206004_2 t215 t216 t217 t218 t219 t220 t221 w _ ?side1 ?side2 A22.out).mono ?_); (case side1 => repeat (first | (with_reducible first | exact HI205.out | apply IsS27.alloc | apply IsS27.drewN | apply IsS27.drew | apply IsS27.set_0 | apply IsS27.set_1 | apply IsS27.set_2 | apply IsS27.set_3 | apply IsS27.set_4) | exact HI205.out)); (case side2 => repeat (first | (with_reducible first | exact HB.out | apply below_alloc | apply pw_below_drewN | apply below_drew1 | refine below_set ?_ (IsS27.ge HI204.out) | refine below_set ?_ (IsS27.ge HI205.out)) | exact HB.out)); rintro e w25 ⟨rfl, hi, hb, hk⟩; refine ⟨_, rfl, ?_⟩; have n0_ := Aside0.mk ((show IsS27 w w25 gb204 x205000_1 x205001_1 x205002_1 x205003_1 x205004_1 from ⟨KeepBut.blk hk (show IsS27 w _ gb204 x205000_1 x205001_1 x205002_1 x205003_1 x205004_1 from by repeat (first | (with_reducible first | exact HI204.out | apply IsS27.alloc | apply IsS27.drewN | apply IsS27.drew | apply IsS27.set_0 | apply IsS27.set_1 | apply IsS27.set_2 | apply IsS27.set_3 | apply IsS27.set_4) | exact HI204.out)).1 NB204_205.out (by simp), (show IsS27 w _ gb204 x205000_1 x205001_1 x205002_1 x205003_1 x205004_1 from by repeat (first | (with_reducible first | exact HI204.out | apply IsS27.alloc | apply IsS27.drewN | apply IsS27.drew | apply IsS27.set_0 | apply IsS27.set_1 | apply IsS27.set_2 | apply IsS27.set_3 | apply IsS27.set_4) | exact HI204.out)).2⟩)); have n1_ := Aside0.mk (hb); have n2_ := Aside0.mk (hi); clear HI204; clear HB; clear HI205; have HI204 := n0_; have HB := n1_; have HI205 := n2_; clear n0_ n1_ n2_; (try clear hb); (try clear hb2); (try clear hk); (try clear hi)))
                      go_ret
                      exact ⟨by first | rfl | (simp [errW_none, errW_some] <;> rfl) | (simp only [← hji8, ← hji17]; first | rfl | (simp [errW_none, errW_some] <;> rfl)) | (simp [*, errW_none, errW_some] <;> rfl), by repeat (first | (with_reducible first | exact HB.out | apply below_alloc | apply pw_below_drewN | apply below_drew1 | refine below_set ?_ (IsS27.ge HI204.out) | refine below_set ?_ (IsS27.ge HI205.out)) | exact HB.out)⟩
                  · rw [if_neg c20] at H
                    exact absurd H (by simp)
                · rw [if_neg c19] at H
                  exact absurd H (by simp)
              · rw [if_neg c18] at H
                have c18b0 : decide (x8_2 < (ji17)) = false := decide_eq_false c18
                clear c18
                replace H := Option.bind_eq_some_iff.mp H
                obtain ⟨⟨t222, t223, t224, t225, t226⟩, A260, H⟩ := H
                replace H : ((queue_Queue_Len.f t222 t223 t224 t225 t226).bind fun bt227 => (if bt227.1 = 0 then ((queue_Queue_Len.f x206000_2 x206001_2 x206002_2 x206003_2 x206004_2).bind fun bt233 => (if bt233.1 = (ji17) then ((queue_Queue_Next.f bt227.2.1 bt227.2.2.1 bt227.2.2.2.1 bt227.2.2.2.2.1 bt227.2.2.2.2.2).bind fun bt239 => (plaitinglaw14_QueueApart.j2 k2 l1 (!(bt239.1 == 1) || (!(bt239.2.1 == 0))) bt239.2.2.1 bt239.2.2.2.1 bt239.2.2.2.2.1 bt239.2.2.2.2.2.1 bt239.2.2.2.2.2.2 bt233.2.1 bt233.2.2.1 bt233.2.2.2.1 bt233.2.2.2.2.1 bt233.2.2.2.2.2)) else (plaitinglaw14_QueueApart.j2 k2 l1 true bt227.2.1 bt227.2.2.1 bt227.2.2.2.1 bt227.2.2.2.2.1 bt227.2.2.2.2.2 bt233.2.1 bt233.2.2.1 bt233.2.2.2.1 bt233.2.2.2.2.1 bt233.2.2.2.2.2))) else (plaitinglaw14_QueueApart.j2 k2 l1 true bt227.2.1 bt227.2.2.1 bt227.2.2.2.1 bt227.2.2.2.2.1 bt227.2.2.2.2.2 x206000_2 x206001_2 x206002_2 x206003_2 x206004_2))) = some r := H
                have A26 := Aside0.mk A260
                clear A260
                have HC27 := Aside0.mk H
                clear H
                go_upto_region 15 with (first | ((with_reducible refine gate_callee (f := 30) rfl ?_); refine goesL_ (some 48) rfl rfl Try.func30 (by kernel_rfl) rfl #[.pointer (some ⟨gb204, 0, none⟩)] rfl (by (try simp only [List.map_toArray, List.map_cons, List.map_nil]); first | done | rfl | (simp only [List.length_drop, List.length_take]; rfl)) ?_; (with_reducible refine (queue_Queue_Clear.calls gb204 x205000_1 x205001_1 x205002_1 x205003_1 x205004_1 t222 t223 t224 t225 t226 w _ ?side1 ?side2 A26.out).mono ?_); (case side1 => repeat (first | (with_reducible first | exact HI204.out | apply IsS27.alloc | apply IsS27.drewN | apply IsS27.drew | apply IsS27.set_0 | apply IsS27.set_1 | apply IsS27.set_2 | apply IsS27.set_3 | apply IsS27.set_4) | exact HI204.out)); (case side2 => repeat (first | (with_reducible first | exact HB.out | apply below_alloc | apply pw_below_drewN | apply below_drew1 | refine below_set ?_ (IsS27.ge HI204.out) | refine below_set ?_ (IsS27.ge HI205.out)) | exact HB.out)); rintro e w28 ⟨rfl, hi, hb, hk⟩; refine ⟨_, rfl, ?_⟩; have n0_ := Aside0.mk ((show IsS27 w w28 gb205 x206000_2 x206001_2 x206002_2 x206003_2 x206004_2 from ⟨KeepBut.blk hk (show IsS27 w _ gb205 x206000_2 x206001_2 x206002_2 x206003_2 x206004_2 from by repeat (first | (with_reducible first | exact HI205.out | apply IsS27.alloc | apply IsS27.drewN | apply IsS27.drew | apply IsS27.set_0 | apply IsS27.set_1 | apply IsS27.set_2 | apply IsS27.set_3 | apply IsS27.set_4) | exact HI205.out)).1 NB205_204.out (by simp), (show IsS27 w _ gb205 x206000_2 x206001_2 x206002_2 x206003_2 x206004_2 from by repeat (first | (with_reducible first | exact HI205.out | apply IsS27.alloc | apply IsS27.drewN | apply IsS27.drew | apply IsS27.set_0 | apply IsS27.set_1 | apply IsS27.set_2 | apply IsS27.set_3 | apply IsS27.set_4) | exact HI205.out)).2⟩)); have n1_ := Aside0.mk (hb); have n2_ := Aside0.mk (hi); clear HI205; clear HB; clear HI204; have HI205 := n0_; have HB := n1_; have HI204 := n2_; clear n0_ n1_ n2_; (try clear hb); (try clear hb2); (try clear hk); (try clear hi)))
                (try simp only [Act.put, List.setIfInBounds_toArray, List.set_cons_zero, List.set_cons_succ])
                go_cut [65] (fun v65 wc => ∃ (kq : Nat) (x65_26 : Bool) (x205000_26 : Int) (x205001_26 : Int) (x205002_26 : Int) (x205003_26 : Int) (x205004_26 : Int) (x206000_26 : Int) (x206001_26 : Int) (x206002_26 : Int) (x206003_26 : Int) (x206004_26 : Int), v65 = .bool x65_26 ∧ Aside0 (plaitinglaw14_QueueApart.j2 kq l1 x65_26 x205000_26 x205001_26 x205002_26 x205003_26 x205004_26 x206000_26 x206001_26 x206002_26 x206003_26 x206004_26 = some r) ∧ Aside0 (kq ≤ k2) ∧ Aside0 (IsS27 w wc gb204 x205000_26 x205001_26 x205002_26 x205003_26 x205004_26) ∧ Aside0 (IsS27 w wc gb205 x206000_26 x206001_26 x206002_26 x206003_26 x206004_26) ∧ Aside0 (Below w.heap.size w wc))
                case first =>
                  have H := HC27.out
                  clear HC27
                  replace H := Option.bind_eq_some_iff.mp H
                  obtain ⟨⟨t227, t228, t229, t230, t231, t232⟩, A290, H⟩ := H
                  replace H : (if t227 = 0 then ((queue_Queue_Len.f x206000_2 x206001_2 x206002_2 x206003_2 x206004_2).bind fun bt233 => (if bt233.1 = (ji17) then ((queue_Queue_Next.f t228 t229 t230 t231 t232).bind fun bt239 => (plaitinglaw14_QueueApart.j2 k2 l1 (!(bt239.1 == 1) || (!(bt239.2.1 == 0))) bt239.2.2.1 bt239.2.2.2.1 bt239.2.2.2.2.1 bt239.2.2.2.2.2.1 bt239.2.2.2.2.2.2 bt233.2.1 bt233.2.2.1 bt233.2.2.2.1 bt233.2.2.2.2.1 bt233.2.2.2.2.2)) else (plaitinglaw14_QueueApart.j2 k2 l1 true t228 t229 t230 t231 t232 bt233.2.1 bt233.2.2.1 bt233.2.2.2.1 bt233.2.2.2.2.1 bt233.2.2.2.2.2))) else (plaitinglaw14_QueueApart.j2 k2 l1 true t228 t229 t230 t231 t232 x206000_2 x206001_2 x206002_2 x206003_2 x206004_2)) = some r := H
                  have A29 := Aside0.mk A290
                  clear A290
                  by_cases c30 : t227 = 0
                  · rw [if_pos c30] at H
                    have c30b0 : (t227 == 0) = true := beq_iff_eq.mpr c30
                    have c30b1 : (t227 != 0) = false := bne_eq_false_iff_eq.mpr c30
                    clear c30
                    (first | rw [c30b0] | (simp only [i64_w, i32_w]; rw [c30b0]) | skip)
                    replace H := Option.bind_eq_some_iff.mp H
                    obtain ⟨⟨t233, t234, t235, t236, t237, t238⟩, A310, H⟩ := H
                    replace H : (if t233 = (ji17) then ((queue_Queue_Next.f t228 t229 t230 t231 t232).bind fun bt239 => (plaitinglaw14_QueueApart.j2 k2 l1 (!(bt239.1 == 1) || (!(bt239.2.1 == 0))) bt239.2.2.1 bt239.2.2.2.1 bt239.2.2.2.2.1 bt239.2.2.2.2.2.1 bt239.2.2.2.2.2.2 t234 t235 t236 t237 t238)) else (plaitinglaw14_QueueApart.j2 k2 l1 true t228 t229 t230 t231 t232 t234 t235 t236 t237 t238)) = some r := H
                    have A31 := Aside0.mk A310
                    clear A310
                    by_cases c32 : t233 = (ji17)
                    · rw [if_pos c32] at H
                      have c32b0 : (t233 == (ji17)) = true := beq_iff_eq.mpr c32
                      have c32b1 : (t233 != (ji17)) = false := bne_eq_false_iff_eq.mpr c32
                      clear c32
                      replace H := Option.bind_eq_some_iff.mp H
                      obtain ⟨⟨t239, t240, t241, t242, t243, t244, t245⟩, A330, H⟩ := H
                      replace H : (plaitinglaw14_QueueApart.j2 k2 l1 (!(t239 == 1) || (!(t240 == 0))) t241 t242 t243 t244 t245 t234 t235 t236 t237 t238) = some r := H
                      have A33 := Aside0.mk A330
                      clear A330
                      have H' := Aside0.mk H
                      clear H
                      go_wp2_with (first | ((with_reducible refine gate_callee (f := 26) rfl ?_); refine goesL_ (some 50) rfl rfl Try.func26 (by kernel_rfl) rfl #[.pointer (some ⟨gb204, 0, none⟩)] rfl (by (try simp only [List.map_toArray, List.map_cons, List.map_nil]); first | done | rfl | (simp only [List.length_drop, List.length_take]; rfl)) ?_; (with_reducible refine (queue_Queue_Len.calls gb204 t222 t223 t224 t225 t226 t227 t228 t229 t230 t231 t232 w _ ?side1 ?side2 A29.out).mono ?_); (case side1 => repeat (first | (with_reducible first | exact HI204.out | apply IsS27.alloc | apply IsS27.drewN | apply IsS27.drew | apply IsS27.set_0 | apply IsS27.set_1 | apply IsS27.set_2 | apply IsS27.set_3 | apply IsS27.set_4) | exact HI204.out)); (case side2 => repeat (first | (with_reducible first | exact HB.out | apply below_alloc | apply pw_below_drewN | apply below_drew1 | refine below_set ?_ (IsS27.ge HI204.out) | refine below_set ?_ (IsS27.ge HI205.out)) | exact HB.out)); rintro e w34 ⟨rfl, hi, hb, hk⟩; refine ⟨_, rfl, ?_⟩; have n0_ := Aside0.mk ((show IsS27 w w34 gb205 x206000_2 x206001_2 x206002_2 x206003_2 x206004_2 from ⟨KeepBut.blk hk (show IsS27 w _ gb205 x206000_2 x206001_2 x206002_2 x206003_2 x206004_2 from by repeat (first | (with_reducible first | exact HI205.out | apply IsS27.alloc | apply IsS27.drewN | apply IsS27.drew | apply IsS27.set_0 | apply IsS27.set_1 | apply IsS27.set_2 | apply IsS27.set_3 | apply IsS27.set_4) | exact HI205.out)).1 NB205_204.out (by simp), (show IsS27 w _ gb205 x206000_2 x206001_2 x206002_2 x206003_2 x206004_2 from by repeat (first | (with_reducible first | exact HI205.out | apply IsS27.alloc | apply IsS27.drewN | apply IsS27.drew | apply IsS27.set_0 | apply IsS27.set_1 | apply IsS27.set_2 | apply IsS27.set_3 | apply IsS27.set_4) | exact HI205.out)).2⟩)); have n1_ := Aside0.mk (hb); have n2_ := Aside0.mk (hi); clear HI205; clear HB; clear HI204; have HI205 := n0_; have HB := n1_; have HI204 := n2_; clear n0_ n1_ n2_; (try clear hb); (try clear hb2); (try clear hk); (try clear hi)) | (go_at_call 26; (with_reducible refine (queue_Queue_Len.calls gb205 x206000_2 x206001_2 x206002_2 x206003_2 x206004_2 t233 t234 t235 t236 t237 t238 w _ ?side1 ?side2 A31.out).mono ?_); (case side1 => repeat (first | (with_reducible first | exact HI205.out | apply IsS27.alloc | apply IsS27.drewN | apply IsS27.drew | apply IsS27.set_0 | apply IsS27.set_1 | apply IsS27.set_2 | apply IsS27.set_3 | apply IsS27.set_4) | exact HI205.out)); (case side2 => repeat (first | (with_reducible first | exact HB.out | apply below_alloc | apply pw_below_drewN | apply below_drew1 | refine below_set ?_ (IsS27.ge HI204.out) | refine below_set ?_ (IsS27.ge HI205.out)) | exact HB.out)); rintro e w35 ⟨rfl, hi, hb, hk⟩; have n0_ := Aside0.mk ((show IsS27 w w35 gb204 t228 t229 t230 t231 t232 from ⟨KeepBut.blk hk (show IsS27 w _ gb204 t228 t229 t230 t231 t232 from by repeat (first | (with_reducible first | exact HI204.out | apply IsS27.alloc | apply IsS27.drewN | apply IsS27.drew | apply IsS27.set_0 | apply IsS27.set_1 | apply IsS27.set_2 | apply IsS27.set_3 | apply IsS27.set_4) | exact HI204.out)).1 NB204_205.out (by simp), (show IsS27 w _ gb204 t228 t229 t230 t231 t232 from by repeat (first | (with_reducible first | exact HI204.out | apply IsS27.alloc | apply IsS27.drewN | apply IsS27.drew | apply IsS27.set_0 | apply IsS27.set_1 | apply IsS27.set_2 | apply IsS27.set_3 | apply IsS27.set_4) | exact HI204.out)).2⟩)); have n1_ := Aside0.mk (hb); have n2_ := Aside0.mk (hi); clear HI204; clear HB; clear HI205; have HI204 := n0_; have HB := n1_; have HI205 := n2_; clear n0_ n1_ n2_; (try clear hb); (try clear hb2); (try clear hk); (try clear hi)) | (go_at_call 27; (with_reducible refine (queue_Queue_Next.calls gb204 t228 t229 t230 t231 t232 t239 t240 t241 t242 t243 t244 t245 w _ ?side1 ?side2 A33.out).mono ?_); (case side1 => repeat (first | (with_reducible first | exact HI204.out | apply IsS27.alloc | apply IsS27.drewN | apply IsS27.drew | apply IsS27.set_0 | apply IsS27.set_1 | apply IsS27.set_2 | apply IsS27.set_3 | apply IsS27.set_4) | exact HI204.out)); (case side2 => repeat (first | (with_reducible first | exact HB.out | apply below_alloc | apply pw_below_drewN | apply below_drew1 | refine below_set ?_ (IsS27.ge HI204.out) | refine below_set ?_ (IsS27.ge HI205.out)) | exact HB.out)); rintro e w36 ⟨rfl, hi, hb, hk⟩; have n0_ := Aside0.mk ((show IsS27 w w36 gb205 t234 t235 t236 t237 t238 from ⟨KeepBut.blk hk (show IsS27 w _ gb205 t234 t235 t236 t237 t238 from by repeat (first | (with_reducible first | exact HI205.out | apply IsS27.alloc | apply IsS27.drewN | apply IsS27.drew | apply IsS27.set_0 | apply IsS27.set_1 | apply IsS27.set_2 | apply IsS27.set_3 | apply IsS27.set_4) | exact HI205.out)).1 NB205_204.out (by simp), (show IsS27 w _ gb205 t234 t235 t236 t237 t238 from by repeat (first | (with_reducible first | exact HI205.out | apply IsS27.alloc | apply IsS27.drewN | apply IsS27.drew | apply IsS27.set_0 | apply IsS27.set_1 | apply IsS27.set_2 | apply IsS27.set_3 | apply IsS27.set_4) | exact HI205.out)).2⟩)); have n1_ := Aside0.mk (hb); have n2_ := Aside0.mk (hi); clear HI205; clear HB; clear HI204; have HI205 := n0_; have HB := n1_; have HI204 := n2_; clear n0_ n1_ n2_; (try clear hb); (try clear hb2); (try clear hk); (try clear hi)))
                      go_meet
                      case rel => exact ⟨_, ((!(t239 == 1) || (!(t240 == 0)))), (t241), (t242), (t243), (t244), (t245), (t234), (t235), (t236), (t237), (t238), (by first | rfl | (simp; done) | (simp [*]; done)), H', ⟨by have := HK1.out; have := HK2.out; first | omega | exact Nat.le_refl _⟩, ⟨by repeat (first | (with_reducible first | exact HI204.out | apply IsS27.alloc | apply IsS27.drewN | apply IsS27.drew | apply IsS27.set_0 | apply IsS27.set_1 | apply IsS27.set_2 | apply IsS27.set_3 | apply IsS27.set_4) | exact HI204.out)⟩, ⟨by repeat (first | (with_reducible first | exact HI205.out | apply IsS27.alloc | apply IsS27.drewN | apply IsS27.drew | apply IsS27.set_0 | apply IsS27.set_1 | apply IsS27.set_2 | apply IsS27.set_3 | apply IsS27.set_4) | exact HI205.out)⟩, ⟨by repeat (first | (with_reducible first | exact HB.out | apply below_alloc | apply pw_below_drewN | apply below_drew1 | refine below_set ?_ (IsS27.ge HI204.out) | refine below_set ?_ (IsS27.ge HI205.out)) | exact HB.out)⟩⟩
                    · rw [if_neg c32] at H
                      have c32b0 : (t233 == (ji17)) = false := beq_eq_false_iff_ne.mpr c32
                      have c32b1 : (t233 != (ji17)) = true := bne_iff_ne.mpr c32
                      have H' := Aside0.mk H
                      clear H
                      go_wp2_with (first | ((with_reducible refine gate_callee (f := 26) rfl ?_); refine goesL_ (some 50) rfl rfl Try.func26 (by kernel_rfl) rfl #[.pointer (some ⟨gb204, 0, none⟩)] rfl (by (try simp only [List.map_toArray, List.map_cons, List.map_nil]); first | done | rfl | (simp only [List.length_drop, List.length_take]; rfl)) ?_; (with_reducible refine (queue_Queue_Len.calls gb204 t222 t223 t224 t225 t226 t227 t228 t229 t230 t231 t232 w _ ?side1 ?side2 A29.out).mono ?_); (case side1 => repeat (first | (with_reducible first | exact HI204.out | apply IsS27.alloc | apply IsS27.drewN | apply IsS27.drew | apply IsS27.set_0 | apply IsS27.set_1 | apply IsS27.set_2 | apply IsS27.set_3 | apply IsS27.set_4) | exact HI204.out)); (case side2 => repeat (first | (with_reducible first | exact HB.out | apply below_alloc | apply pw_below_drewN | apply below_drew1 | refine below_set ?_ (IsS27.ge HI204.out) | refine below_set ?_ (IsS27.ge HI205.out)) | exact HB.out)); rintro e w37 ⟨rfl, hi, hb, hk⟩; refine ⟨_, rfl, ?_⟩; have n0_ := Aside0.mk ((show IsS27 w w37 gb205 x206000_2 x206001_2 x206002_2 x206003_2 x206004_2 from ⟨KeepBut.blk hk (show IsS27 w _ gb205 x206000_2 x206001_2 x206002_2 x206003_2 x206004_2 from by repeat (first | (with_reducible first | exact HI205.out | apply IsS27.alloc | apply IsS27.drewN | apply IsS27.drew | apply IsS27.set_0 | apply IsS27.set_1 | apply IsS27.set_2 | apply IsS27.set_3 | apply IsS27.set_4) | exact HI205.out)).1 NB205_204.out (by simp), (show IsS27 w _ gb205 x206000_2 x206001_2 x206002_2 x206003_2 x206004_2 from by repeat (first | (with_reducible first | exact HI205.out | apply IsS27.alloc | apply IsS27.drewN | apply IsS27.drew | apply IsS27.set_0 | apply IsS27.set_1 | apply IsS27.set_2 | apply IsS27.set_3 | apply IsS27.set_4) | exact HI205.out)).2⟩)); have n1_ := Aside0.mk (hb); have n2_ := Aside0.mk (hi); clear HI205; clear HB; clear HI204; have HI205 := n0_; have HB := n1_; have HI204 := n2_; clear n0_ n1_ n2_; (try clear hb); (try clear hb2); (try clear hk); (try clear hi)) | (go_at_call 26; (with_reducible refine (queue_Queue_Len.calls gb205 x206000_2 x206001_2 x206002_2 x206003_2 x206004_2 t233 t234 t235 t236 t237 t238 w _ ?side1 ?side2 A31.out).mono ?_); (case side1 => repeat (first | (with_reducible first | exact HI205.out | apply IsS27.alloc | apply IsS27.drewN | apply IsS27.drew | apply IsS27.set_0 | apply IsS27.set_1 | apply IsS27.set_2 | apply IsS27.set_3 | apply IsS27.set_4) | exact HI205.out)); (case side2 => repeat (first | (with_reducible first | exact HB.out | apply below_alloc | apply pw_below_drewN | apply below_drew1 | refine below_set ?_ (IsS27.ge HI204.out) | refine below_set ?_ (IsS27.ge HI205.out)) | exact HB.out)); rintro e w38 ⟨rfl, hi, hb, hk⟩; have n0_ := Aside0.mk ((show IsS27 w w38 gb204 t228 t229 t230 t231 t232 from ⟨KeepBut.blk hk (show IsS27 w _ gb204 t228 t229 t230 t231 t232 from by repeat (first | (with_reducible first | exact HI204.out | apply IsS27.alloc | apply IsS27.drewN | apply IsS27.drew | apply IsS27.set_0 | apply IsS27.set_1 | apply IsS27.set_2 | apply IsS27.set_3 | apply IsS27.set_4) | exact HI204.out)).1 NB204_205.out (by simp), (show IsS27 w _ gb204 t228 t229 t230 t231 t232 from by repeat (first | (with_reducible first | exact HI204.out | apply IsS27.alloc | apply IsS27.drewN | apply IsS27.drew | apply IsS27.set_0 | apply IsS27.set_1 | apply IsS27.set_2 | apply IsS27.set_3 | apply IsS27.set_4) | exact HI204.out)).2⟩)); have n1_ := Aside0.mk (hb); have n2_ := Aside0.mk (hi); clear HI204; clear HB; clear HI205; have HI204 := n0_; have HB := n1_; have HI205 := n2_; clear n0_ n1_ n2_; (try clear hb); (try clear hb2); (try clear hk); (try clear hi)))
                      go_meet
                      case rel => exact ⟨_, (true), (t228), (t229), (t230), (t231), (t232), (t234), (t235), (t236), (t237), (t238), (by first | rfl | (simp; done) | (simp [*]; done)), H', ⟨by have := HK1.out; have := HK2.out; first | omega | exact Nat.le_refl _⟩, ⟨by repeat (first | (with_reducible first | exact HI204.out | apply IsS27.alloc | apply IsS27.drewN | apply IsS27.drew | apply IsS27.set_0 | apply IsS27.set_1 | apply IsS27.set_2 | apply IsS27.set_3 | apply IsS27.set_4) | exact HI204.out)⟩, ⟨by repeat (first | (with_reducible first | exact HI205.out | apply IsS27.alloc | apply IsS27.drewN | apply IsS27.drew | apply IsS27.set_0 | apply IsS27.set_1 | apply IsS27.set_2 | apply IsS27.set_3 | apply IsS27.set_4) | exact HI205.out)⟩, ⟨by repeat (first | (with_reducible first | exact HB.out | apply below_alloc | apply pw_below_drewN | apply below_drew1 | refine below_set ?_ (IsS27.ge HI204.out) | refine below_set ?_ (IsS27.ge HI205.out)) | exact HB.out)⟩⟩
                  · rw [if_neg c30] at H
                    have c30b0 : (t227 == 0) = false := beq_eq_false_iff_ne.mpr c30
                    have c30b1 : (t227 != 0) = true := bne_iff_ne.mpr c30
                    (first | rw [c30b0] | (simp only [i64_w, i32_w]; rw [c30b0]) | skip)
                    have H' := Aside0.mk H
                    clear H
                    go_wp2_with (first | ((with_reducible refine gate_callee (f := 26) rfl ?_); refine goesL_ (some 50) rfl rfl Try.func26 (by kernel_rfl) rfl #[.pointer (some ⟨gb204, 0, none⟩)] rfl (by (try simp only [List.map_toArray, List.map_cons, List.map_nil]); first | done | rfl | (simp only [List.length_drop, List.length_take]; rfl)) ?_; (with_reducible refine (queue_Queue_Len.calls gb204 t222 t223 t224 t225 t226 t227 t228 t229 t230 t231 t232 w _ ?side1 ?side2 A29.out).mono ?_); (case side1 => repeat (first | (with_reducible first | exact HI204.out | apply IsS27.alloc | apply IsS27.drewN | apply IsS27.drew | apply IsS27.set_0 | apply IsS27.set_1 | apply IsS27.set_2 | apply IsS27.set_3 | apply IsS27.set_4) | exact HI204.out)); (case side2 => repeat (first | (with_reducible first | exact HB.out | apply below_alloc | apply pw_below_drewN | apply below_drew1 | refine below_set ?_ (IsS27.ge HI204.out) | refine below_set ?_ (IsS27.ge HI205.out)) | exact HB.out)); rintro e w39 ⟨rfl, hi, hb, hk⟩; refine ⟨_, rfl, ?_⟩; have n0_ := Aside0.mk ((show IsS27 w w39 gb205 x206000_2 x206001_2 x206002_2 x206003_2 x206004_2 from ⟨KeepBut.blk hk (show IsS27 w _ gb205 x206000_2 x206001_2 x206002_2 x206003_2 x206004_2 from by repeat (first | (with_reducible first | exact HI205.out | apply IsS27.alloc | apply IsS27.drewN | apply IsS27.drew | apply IsS27.set_0 | apply IsS27.set_1 | apply IsS27.set_2 | apply IsS27.set_3 | apply IsS27.set_4) | exact HI205.out)).1 NB205_204.out (by simp), (show IsS27 w _ gb205 x206000_2 x206001_2 x206002_2 x206003_2 x206004_2 from by repeat (first | (with_reducible first | exact HI205.out | apply IsS27.alloc | apply IsS27.drewN | apply IsS27.drew | apply IsS27.set_0 | apply IsS27.set_1 | apply IsS27.set_2 | apply IsS27.set_3 | apply IsS27.set_4) | exact HI205.out)).2⟩)); have n1_ := Aside0.mk (hb); have n2_ := Aside0.mk (hi); clear HI205; clear HB; clear HI204; have HI205 := n0_; have HB := n1_; have HI204 := n2_; clear n0_ n1_ n2_; (try clear hb); (try clear hb2); (try clear hk); (try clear hi)))
                    go_meet
                    case rel => exact ⟨_, (true), (t228), (t229), (t230), (t231), (t232), (x206000_2), (x206001_2), (x206002_2), (x206003_2), (x206004_2), (by first | rfl | (simp; done) | (simp [*]; done)), H', ⟨by have := HK1.out; have := HK2.out; first | omega | exact Nat.le_refl _⟩, ⟨by repeat (first | (with_reducible first | exact HI204.out | apply IsS27.alloc | apply IsS27.drewN | apply IsS27.drew | apply IsS27.set_0 | apply IsS27.set_1 | apply IsS27.set_2 | apply IsS27.set_3 | apply IsS27.set_4) | exact HI204.out)⟩, ⟨by repeat (first | (with_reducible first | exact HI205.out | apply IsS27.alloc | apply IsS27.drewN | apply IsS27.drew | apply IsS27.set_0 | apply IsS27.set_1 | apply IsS27.set_2 | apply IsS27.set_3 | apply IsS27.set_4) | exact HI205.out)⟩, ⟨by repeat (first | (with_reducible first | exact HB.out | apply below_alloc | apply pw_below_drewN | apply below_drew1 | refine below_set ?_ (IsS27.ge HI204.out) | refine below_set ?_ (IsS27.ge HI205.out)) | exact HB.out)⟩⟩
                case rest =>
                  clear HC27
                  try clear c1
                  try clear c2
                  try clear p2
                  try clear q2
                  try clear hx2
                  try clear c3
                  try clear c4
                  try clear c6
                  try clear p6
                  try clear c9
                  try clear c9b0
                  try clear c10
                  try clear c10b0
                  try clear c11
                  try clear c11b0
                  try clear c14
                  try clear c14b0
                  try clear c14b1
                  try clear c18
                  try clear c18b0
                  try clear c19
                  try clear c19b0
                  try clear c20
                  try clear c20b0
                  try clear p20
                  try clear q20
                  try clear hx20
                  try clear p21
                  try clear q21
                  try clear hx21
                  try clear c23
                  try clear c23b0
                  try clear c23b1
                  try clear c24
                  try clear c25
                  try clear c26
                  try clear c30
                  try clear c30b0
                  try clear c30b1
                  try clear c32
                  try clear c32b0
                  try clear c32b1
                  try clear hx206_0
                  try clear hx214_0
                  try clear p2
                  try clear p206
                  try clear p214
                  try clear p6
                  try clear q2
                  try clear q206
                  try clear q214
                  obtain ⟨kq, x65_26, x205000_26, x205001_26, x205002_26, x205003_26, x205004_26, x206000_26, x206001_26, x206002_26, x206003_26, x206004_26, rfl, HA, HJ26, HI204, HI205, HB⟩ := hcut
                  cases kq with
                  | zero => exact absurd HA.out (by simp [plaitinglaw14_QueueApart.j2])
                  | succ kj26 =>
                    have H := HA.out
                    clear HA
                    simp only [plaitinglaw14_QueueApart.j2] at H
                    by_cases c40 : x65_26 = true
                    · subst c40
                      have H1 : (some false) = some r := by rw [if_pos rfl] at H; exact H
                      clear H
                      have H := H1
                      clear H1
                      obtain rfl := Option.some.inj H
                      go_wp2
                      go_ret
                      exact ⟨by first | rfl | (simp [errW_none, errW_some] <;> rfl) | (simp only [← hji8, ← hji17]; first | rfl | (simp [errW_none, errW_some] <;> rfl)) | (simp [*, errW_none, errW_some] <;> rfl), by repeat (first | (with_reducible first | exact HB.out | apply below_alloc | apply pw_below_drewN | apply below_drew1 | refine below_set ?_ (IsS27.ge HI204.out) | refine below_set ?_ (IsS27.ge HI205.out)) | exact HB.out)⟩
                    · replace c40 := Bool.eq_false_iff.mpr c40
                      subst c40
                      have H1 : (plaitinglaw14_QueueApart.l2 kj26 l1 0 x205000_26 x205001_26 x205002_26 x205003_26 x205004_26 x206000_26 x206001_26 x206002_26 x206003_26 x206004_26) = some r := by rw [if_neg (show ¬ (false = true) by decide)] at H; exact H
                      clear H
                      have H := H1
                      clear H1
                      have H' := Aside0.mk H
                      clear H
                      go_wp2
                      go_loopg [9] kj26 (fun kq v9 w' => ∃ (x9_4 : Int) (x205000_4 : Int) (x205001_4 : Int) (x205002_4 : Int) (x205003_4 : Int) (x205004_4 : Int), v9 = .int .i64 x9_4 ∧ Aside0 (plaitinglaw14_QueueApart.l2 kq l1 x9_4 x205000_4 x205001_4 x205002_4 x205003_4 x205004_4 x206000_26 x206001_26 x206002_26 x206003_26 x206004_26 = some r) ∧ Aside0 (kq ≤ kj26) ∧ Aside0 (IsS27 w w' gb204 x205000_4 x205001_4 x205002_4 x205003_4 x205004_4) ∧ Aside0 (IsS27 w w' gb205 x206000_26 x206001_26 x206002_26 x206003_26 x206004_26) ∧ Aside0 (Below w.heap.size w w'))
                      case atStart => exact ⟨(0), (x205000_26), (x205001_26), (x205002_26), (x205003_26), (x205004_26), (by first | rfl | (simp; done) | (simp [*]; done)), H', ⟨Nat.le_refl _⟩, ⟨by repeat (first | (with_reducible first | exact HI204.out | apply IsS27.alloc | apply IsS27.drewN | apply IsS27.drew | apply IsS27.set_0 | apply IsS27.set_1 | apply IsS27.set_2 | apply IsS27.set_3 | apply IsS27.set_4) | exact HI204.out)⟩, ⟨by repeat (first | (with_reducible first | exact HI205.out | apply IsS27.alloc | apply IsS27.drewN | apply IsS27.drew | apply IsS27.set_0 | apply IsS27.set_1 | apply IsS27.set_2 | apply IsS27.set_3 | apply IsS27.set_4) | exact HI205.out)⟩, ⟨by repeat (first | (with_reducible first | exact HB.out | apply below_alloc | apply pw_below_drewN | apply below_drew1 | refine below_set ?_ (IsS27.ge HI204.out) | refine below_set ?_ (IsS27.ge HI205.out)) | exact HB.out)⟩⟩
                      case round =>
                        clear H'
                        try clear c1
                        try clear c2
                        try clear p2
                        try clear q2
                        try clear hx2
                        try clear c3
                        try clear c4
                        try clear c6
                        try clear p6
                        try clear c9
                        try clear c9b0
                        try clear c10
                        try clear c10b0
                        try clear c11
                        try clear c11b0
                        try clear c14
                        try clear c14b0
                        try clear c14b1
                        try clear c18
                        try clear c18b0
                        try clear c19
                        try clear c19b0
                        try clear c20
                        try clear c20b0
                        try clear p20
                        try clear q20
                        try clear hx20
                        try clear p21
                        try clear q21
                        try clear hx21
                        try clear c23
                        try clear c23b0
                        try clear c23b1
                        try clear c24
                        try clear c25
                        try clear c26
                        try clear c30
                        try clear c30b0
                        try clear c30b1
                        try clear c32
                        try clear c32b0
                        try clear c32b1
                        try clear c40
                        try clear hx206_0
                        try clear hx214_0
                        try clear p2
                        try clear p20
                        try clear p206
                        try clear p21
                        try clear p214
                        try clear p6
                        try clear q2
                        try clear q20
                        try clear q206
                        try clear q21
                        try clear q214
                        obtain ⟨x9_4, x205000_4, x205001_4, x205002_4, x205003_4, x205004_4, rfl, HA, HK4, HI204, HI205, HB⟩ := hrel
                        cases gk with
                        | zero => exact absurd HA.out (by simp [plaitinglaw14_QueueApart.l2])
                        | succ k4 =>
                          have H := HA.out
                          clear HA
                          simp only [plaitinglaw14_QueueApart.l2] at H
                          by_cases c41 : x9_4 < 4
                          · rw [if_pos c41] at H
                            have c41b0 : decide (x9_4 < 4) = true := decide_eq_true c41
                            clear c41
                            replace H := Option.bind_eq_some_iff.mp H
                            obtain ⟨⟨t246, t247, t248, t249, t250, t251⟩, A420, H⟩ := H
                            replace H : (if t246 = 0 then (plaitinglaw14_QueueApart.l2 k4 l1 (wrap64 (x9_4 + 1)) t247 t248 t249 t250 t251 x206000_26 x206001_26 x206002_26 x206003_26 x206004_26) else (some false)) = some r := H
                            have A42 := Aside0.mk A420
                            clear A420
                            by_cases c43 : t246 = 0
                            · rw [if_pos c43] at H
                              have c43b0 : (t246 == 0) = true := beq_iff_eq.mpr c43
                              have c43b1 : (t246 != 0) = false := bne_eq_false_iff_eq.mpr c43
                              clear c43
                              have H' := Aside0.mk H
                              clear H
                              go_wp2_with (first | ((with_reducible refine gate_callee (f := 24) rfl ?_); refine goesL_ (some 72) rfl rfl Try.func24 (by kernel_rfl) rfl #[.pointer (some ⟨gb204, 0, none⟩), .int .i64 x9_4] rfl (by (try simp only [List.map_toArray, List.map_cons, List.map_nil]); first | done | rfl | (simp only [List.length_drop, List.length_take]; rfl)) ?_; (with_reducible refine (queue_Queue_Send.calls gb204 x205000_4 x205001_4 x205002_4 x205003_4 x205004_4 x9_4 t246 t247 t248 t249 t250 t251 w _ ?side1 ?side2 A42.out).mono ?_); (case side1 => repeat (first | (with_reducible first | exact HI204.out | apply IsS27.alloc | apply IsS27.drewN | apply IsS27.drew | apply IsS27.set_0 | apply IsS27.set_1 | apply IsS27.set_2 | apply IsS27.set_3 | apply IsS27.set_4) | exact HI204.out)); (case side2 => repeat (first | (with_reducible first | exact HB.out | apply below_alloc | apply pw_below_drewN | apply below_drew1 | refine below_set ?_ (IsS27.ge HI204.out) | refine below_set ?_ (IsS27.ge HI205.out)) | exact HB.out)); rintro e w44 ⟨rfl, hi, hb, hk⟩; refine ⟨_, rfl, ?_⟩; have n0_ := Aside0.mk ((show IsS27 w w44 gb205 x206000_26 x206001_26 x206002_26 x206003_26 x206004_26 from ⟨KeepBut.blk hk (show IsS27 w _ gb205 x206000_26 x206001_26 x206002_26 x206003_26 x206004_26 from by repeat (first | (with_reducible first | exact HI205.out | apply IsS27.alloc | apply IsS27.drewN | apply IsS27.drew | apply IsS27.set_0 | apply IsS27.set_1 | apply IsS27.set_2 | apply IsS27.set_3 | apply IsS27.set_4) | exact HI205.out)).1 NB205_204.out (by simp), (show IsS27 w _ gb205 x206000_26 x206001_26 x206002_26 x206003_26 x206004_26 from by repeat (first | (with_reducible first | exact HI205.out | apply IsS27.alloc | apply IsS27.drewN | apply IsS27.drew | apply IsS27.set_0 | apply IsS27.set_1 | apply IsS27.set_2 | apply IsS27.set_3 | apply IsS27.set_4) | exact HI205.out)).2⟩)); have n1_ := Aside0.mk (hb); have n2_ := Aside0.mk (hi); clear HI205; clear HB; clear HI204; have HI205 := n0_; have HB := n1_; have HI204 := n2_; clear n0_ n1_ n2_; (try clear hb); (try clear hb2); (try clear hk); (try clear hi)))
                              go_roundg k4
                              case measure => have := HK1.out; have := HK2.out; have := HJ26.out; have := HK4.out; omega
                              case rel => exact ⟨(wrap64 (x9_4 + 1)), (t247), (t248), (t249), (t250), (t251), (by first | rfl | (simp; done) | (simp [*]; done)), H', ⟨by have := HK1.out; have := HK2.out; have := HJ26.out; have := HK4.out; omega⟩, ⟨by repeat (first | (with_reducible first | exact HI204.out | apply IsS27.alloc | apply IsS27.drewN | apply IsS27.drew | apply IsS27.set_0 | apply IsS27.set_1 | apply IsS27.set_2 | apply IsS27.set_3 | apply IsS27.set_4) | exact HI204.out)⟩, ⟨by repeat (first | (with_reducible first | exact HI205.out | apply IsS27.alloc | apply IsS27.drewN | apply IsS27.drew | apply IsS27.set_0 | apply IsS27.set_1 | apply IsS27.set_2 | apply IsS27.set_3 | apply IsS27.set_4) | exact HI205.out)⟩, ⟨by repeat (first | (with_reducible first | exact HB.out | apply below_alloc | apply pw_below_drewN | apply below_drew1 | refine below_set ?_ (IsS27.ge HI204.out) | refine below_set ?_ (IsS27.ge HI205.out)) | exact HB.out)⟩⟩
                            · rw [if_neg c43] at H
                              have c43b0 : (t246 == 0) = false := beq_eq_false_iff_ne.mpr c43
                              have c43b1 : (t246 != 0) = true := bne_iff_ne.mpr c43
                              obtain rfl := Option.some.inj H
                              go_wp2_with (first | ((with_reducible refine gate_callee (f := 24) rfl ?_); refine goesL_ (some 72) rfl rfl Try.func24 (by kernel_rfl) rfl #[.pointer (some ⟨gb204, 0, none⟩), .int .i64 x9_4] rfl (by (try simp only [List.map_toArray, List.map_cons, List.map_nil]); first | done | rfl | (simp only [List.length_drop, List.length_take]; rfl)) ?_; (with_reducible refine (queue_Queue_Send.calls gb204 x205000_4 x205001_4 x205002_4 x205003_4 x205004_4 x9_4 t246 t247 t248 t249 t250 t251 w _ ?side1 ?side2 A42.out).mono ?_); (case side1 => repeat (first | (with_reducible first | exact HI204.out | apply IsS27.alloc | apply IsS27.drewN | apply IsS27.drew | apply IsS27.set_0 | apply IsS27.set_1 | apply IsS27.set_2 | apply IsS27.set_3 | apply IsS27.set_4) | exact HI204.out)); (case side2 => repeat (first | (with_reducible first | exact HB.out | apply below_alloc | apply pw_below_drewN | apply below_drew1 | refine below_set ?_ (IsS27.ge HI204.out) | refine below_set ?_ (IsS27.ge HI205.out)) | exact HB.out)); rintro e w45 ⟨rfl, hi, hb, hk⟩; refine ⟨_, rfl, ?_⟩; have n0_ := Aside0.mk ((show IsS27 w w45 gb205 x206000_26 x206001_26 x206002_26 x206003_26 x206004_26 from ⟨KeepBut.blk hk (show IsS27 w _ gb205 x206000_26 x206001_26 x206002_26 x206003_26 x206004_26 from by repeat (first | (with_reducible first | exact HI205.out | apply IsS27.alloc | apply IsS27.drewN | apply IsS27.drew | apply IsS27.set_0 | apply IsS27.set_1 | apply IsS27.set_2 | apply IsS27.set_3 | apply IsS27.set_4) | exact HI205.out)).1 NB205_204.out (by simp), (show IsS27 w _ gb205 x206000_26 x206001_26 x206002_26 x206003_26 x206004_26 from by repeat (first | (with_reducible first | exact HI205.out | apply IsS27.alloc | apply IsS27.drewN | apply IsS27.drew | apply IsS27.set_0 | apply IsS27.set_1 | apply IsS27.set_2 | apply IsS27.set_3 | apply IsS27.set_4) | exact HI205.out)).2⟩)); have n1_ := Aside0.mk (hb); have n2_ := Aside0.mk (hi); clear HI205; clear HB; clear HI204; have HI205 := n0_; have HB := n1_; have HI204 := n2_; clear n0_ n1_ n2_; (try clear hb); (try clear hb2); (try clear hk); (try clear hi)))
                              go_ret
                              exact ⟨by first | rfl | (simp [errW_none, errW_some] <;> rfl) | (simp only [← hji8, ← hji17]; first | rfl | (simp [errW_none, errW_some] <;> rfl)) | (simp [*, errW_none, errW_some] <;> rfl), by repeat (first | (with_reducible first | exact HB.out | apply below_alloc | apply pw_below_drewN | apply below_drew1 | refine below_set ?_ (IsS27.ge HI204.out) | refine below_set ?_ (IsS27.ge HI205.out)) | exact HB.out)⟩
                          · rw [if_neg c41] at H
                            have c41b0 : decide (x9_4 < 4) = false := decide_eq_false c41
                            clear c41
                            have H' := Aside0.mk H
                            clear H
                            go_wp2
                            go_loopg [10] k4 (fun kq v10 w' => ∃ (x10_5 : Int) (x206000_5 : Int) (x206001_5 : Int) (x206002_5 : Int) (x206003_5 : Int) (x206004_5 : Int), v10 = .int .i64 x10_5 ∧ Aside0 (plaitinglaw14_QueueApart.l3 kq l1 x10_5 x205000_4 x205001_4 x205002_4 x205003_4 x205004_4 x206000_5 x206001_5 x206002_5 x206003_5 x206004_5 = some r) ∧ Aside0 (kq ≤ k4) ∧ Aside0 (IsS27 w w' gb204 x205000_4 x205001_4 x205002_4 x205003_4 x205004_4) ∧ Aside0 (IsS27 w w' gb205 x206000_5 x206001_5 x206002_5 x206003_5 x206004_5) ∧ Aside0 (Below w.heap.size w w'))
                            case atStart => exact ⟨(0), (x206000_26), (x206001_26), (x206002_26), (x206003_26), (x206004_26), (by first | rfl | (simp; done) | (simp [*]; done)), H', ⟨Nat.le_refl _⟩, ⟨by repeat (first | (with_reducible first | exact HI204.out | apply IsS27.alloc | apply IsS27.drewN | apply IsS27.drew | apply IsS27.set_0 | apply IsS27.set_1 | apply IsS27.set_2 | apply IsS27.set_3 | apply IsS27.set_4) | exact HI204.out)⟩, ⟨by repeat (first | (with_reducible first | exact HI205.out | apply IsS27.alloc | apply IsS27.drewN | apply IsS27.drew | apply IsS27.set_0 | apply IsS27.set_1 | apply IsS27.set_2 | apply IsS27.set_3 | apply IsS27.set_4) | exact HI205.out)⟩, ⟨by repeat (first | (with_reducible first | exact HB.out | apply below_alloc | apply pw_below_drewN | apply below_drew1 | refine below_set ?_ (IsS27.ge HI204.out) | refine below_set ?_ (IsS27.ge HI205.out)) | exact HB.out)⟩⟩
                            case round =>
                              clear H'
                              try clear c1
                              try clear c2
                              try clear p2
                              try clear q2
                              try clear hx2
                              try clear c3
                              try clear c4
                              try clear c6
                              try clear p6
                              try clear c9
                              try clear c9b0
                              try clear c10
                              try clear c10b0
                              try clear c11
                              try clear c11b0
                              try clear c14
                              try clear c14b0
                              try clear c14b1
                              try clear c18
                              try clear c18b0
                              try clear c19
                              try clear c19b0
                              try clear c20
                              try clear c20b0
                              try clear p20
                              try clear q20
                              try clear hx20
                              try clear p21
                              try clear q21
                              try clear hx21
                              try clear c23
                              try clear c23b0
                              try clear c23b1
                              try clear c24
                              try clear c25
                              try clear c26
                              try clear c30
                              try clear c30b0
                              try clear c30b1
                              try clear c32
                              try clear c32b0
                              try clear c32b1
                              try clear c40
                              try clear c41
                              try clear c41b0
                              try clear c43
                              try clear c43b0
                              try clear c43b1
                              try clear hx206_0
                              try clear hx214_0
                              try clear p2
                              try clear p20
                              try clear p206
                              try clear p21
                              try clear p214
                              try clear p6
                              try clear q2
                              try clear q20
                              try clear q206
                              try clear q21
                              try clear q214
                              obtain ⟨x10_5, x206000_5, x206001_5, x206002_5, x206003_5, x206004_5, rfl, HA, HK5, HI204, HI205, HB⟩ := hrel
                              cases gk with
                              | zero => exact absurd HA.out (by simp [plaitinglaw14_QueueApart.l3])
                              | succ k5 =>
                                have H := HA.out
                                clear HA
                                simp only [plaitinglaw14_QueueApart.l3] at H
                                obtain ⟨ji46, hji46⟩ : ∃ j_ : Int, (mn (l1.length : Int) 4) = j_ := ⟨_, rfl⟩
                                replace H : (if x10_5 < (ji46) then ((queue_Queue_Next.f x206000_5 x206001_5 x206002_5 x206003_5 x206004_5).bind fun bt252 => (if 0 ≤ x10_5 then (if x10_5 < (l1.length : Int) then ((plaitinglaw14_within.f (rd l1 x10_5) 256).bind fun t260 => (if (!(bt252.1 == 2) || (!(bt252.2.1 == t260))) = true then (some false) else (plaitinglaw14_QueueApart.l3 k5 l1 (wrap64 (x10_5 + 1)) x205000_4 x205001_4 x205002_4 x205003_4 x205004_4 bt252.2.2.1 bt252.2.2.2.1 bt252.2.2.2.2.1 bt252.2.2.2.2.2.1 bt252.2.2.2.2.2.2))) else (none)) else (none))) else ((queue_Queue_Send.f x205000_4 x205001_4 x205002_4 x205003_4 x205004_4 4).bind fun bt261 => (if bt261.1 = 8 then ((queue_Queue_Next.f bt261.2.1 bt261.2.2.1 bt261.2.2.2.1 bt261.2.2.2.2.1 bt261.2.2.2.2.2).bind fun bt267 => (if (bt267.1 == 2 && (bt267.2.1 == 0)) = true then ((queue_Queue_Len.f bt267.2.2.1 bt267.2.2.2.1 bt267.2.2.2.2.1 bt267.2.2.2.2.2.1 bt267.2.2.2.2.2.2).bind fun bt274 => (some (bt274.1 == 3))) else (some false))) else (some false)))) = some r := by first | (rw [hji46] at H; exact H) | (simp only [hji46] at H ⊢; exact H)
                                have hji46_ : (if 4 < (l1.length : Int) then 4 else (l1.length : Int)) = ji46 := hji46
                                obtain rfl : ji46 = ji17 := hji46.symm.trans hji17
                                by_cases c47 : x10_5 < (ji46)
                                · rw [if_pos c47] at H
                                  have c47b0 : decide (x10_5 < (ji46)) = true := decide_eq_true c47
                                  clear c47
                                  replace H := Option.bind_eq_some_iff.mp H
                                  obtain ⟨⟨t252, t253, t254, t255, t256, t257, t258⟩, A480, H⟩ := H
                                  replace H : (if 0 ≤ x10_5 then (if x10_5 < (l1.length : Int) then ((plaitinglaw14_within.f (rd l1 x10_5) 256).bind fun t260 => (if (!(t252 == 2) || (!(t253 == t260))) = true then (some false) else (plaitinglaw14_QueueApart.l3 k5 l1 (wrap64 (x10_5 + 1)) x205000_4 x205001_4 x205002_4 x205003_4 x205004_4 t254 t255 t256 t257 t258))) else (none)) else (none)) = some r := H
                                  have A48 := Aside0.mk A480
                                  clear A480
                                  by_cases c49 : 0 ≤ x10_5
                                  · rw [if_pos c49] at H
                                    have c49b0 : decide (0 ≤ x10_5) = true := decide_eq_true c49
                                    clear c49
                                    by_cases c50 : x10_5 < (l1.length : Int)
                                    · rw [if_pos c50] at H
                                      have c50b0 : decide (x10_5 < (l1.length : Int)) = true := decide_eq_true c50
                                      clear c50
                                      replace H := Option.bind_eq_some_iff.mp H
                                      obtain ⟨t260, A510, H⟩ := H
                                      replace H : (if (!(t252 == 2) || (!(t253 == t260))) = true then (some false) else (plaitinglaw14_QueueApart.l3 k5 l1 (wrap64 (x10_5 + 1)) x205000_4 x205001_4 x205002_4 x205003_4 x205004_4 t254 t255 t256 t257 t258)) = some r := H
                                      have A51 := Aside0.mk A510
                                      clear A510
                                      by_cases c52 : (!(t252 == 2) || (!(t253 == t260))) = true
                                      · rw [if_pos c52] at H
                                        have c52b0 : (!(t252 == 2) || (!(t253 == t260))) = true := c52
                                        clear c52
                                        obtain rfl := Option.some.inj H
                                        try go_wp2
                                        have n0_ := Aside0.mk (IsS27.drew HI204.out)
                                        have n1_ := Aside0.mk (IsS27.drew HI205.out)
                                        have n2_ := Aside0.mk (below_drew1 HB.out)
                                        clear HI204
                                        clear HI205
                                        clear HB
                                        have HI204 := n0_
                                        have HI205 := n1_
                                        have HB := n2_
                                        clear n0_ n1_ n2_
                                        have p259 : 0 ≤ (x10_5 : Int) := of_decide_eq_true (by first | (with_reducible assumption) | assumption)
                                        have q259 : x10_5 < (l1.length : Int) := of_decide_eq_true (by first | (with_reducible assumption) | assumption)
                                        obtain ⟨ad259, e259, hx259_0⟩ := Kd.at_int HR1.out x10_5 p259 q259
                                        have hw259_0 := hx259_0
                                        cases e259
                                        replace hx259_0 := (HB.out.cell (World.block_lt_of_cell? w _ hx259_0)).trans hx259_0
                                        replace p259 := eq_true p259
                                        replace q259 := eq_true q259
                                        refine start_ (n := 9) (S := fun w' => w'.cell? (ad259.add (x10_5).toNat) = some (.int .i64 (rd l1 x10_5))) (ds := []) #[false, false, false, false, false, false, false, false, false] (by kernel_rfl) rfl rfl (((HB.out.cell (World.block_lt_of_cell? w _ hw259_0)).trans hw259_0)) (fun hHeld => ?_); refine with_tabW plaitinglaw14_QueueApart.tab25 plaitinglaw14_QueueApart.bits25 (fun HT_ HW_ => ?_)
                                        generalize wr.drew = w53 at HI204 HI205 HB hx259_0 hHeld ⊢
                                        refine pure_ (i := 0) (N := some 81) (v := ?_) (a' := ?_) #[true, false, false, false, false, false, false, false, false] rfl rfl (any_of HT_.out (by kernel_rfl)) (fun _ _ _ h => h) (Or.inl ⟨by rfl, ?_⟩) ?_ ?_
                                        rotate_left
                                        · intro w'
                                          go_simp
                                          with_reducible rfl
                                        rotate_left
                                        · simp only [Act.put, List.setIfInBounds_toArray, List.set_cons_zero, List.set_cons_succ, i64_w, i32_w]
                                          rfl
                                        refine pure_ (i := 2) (N := some 83) (v := ?_) (a' := ?_) #[true, false, true, false, false, false, false, false, false] rfl rfl (any_of HT_.out (by kernel_rfl)) (fun _ _ _ h => h) (Or.inl ⟨by rfl, ?_⟩) ?_ ?_
                                        rotate_left
                                        · intro w'
                                          go_simp
                                          with_reducible rfl
                                        rotate_left
                                        · simp only [Act.put, List.setIfInBounds_toArray, List.set_cons_zero, List.set_cons_succ, i64_w, i32_w]
                                          rfl
                                        refine pure_ (i := 3) (N := some 84) (v := ?_) (a' := ?_) #[true, false, true, true, false, false, false, false, false] rfl rfl (any_of HT_.out (by kernel_rfl)) (fun _ _ _ h => h) (Or.inl ⟨by rfl, ?_⟩) ?_ ?_
                                        rotate_left
                                        · intro w'
                                          go_simp
                                          with_reducible rfl
                                        rotate_left
                                        · simp only [Act.put, List.setIfInBounds_toArray, List.set_cons_zero, List.set_cons_succ, i64_w, i32_w]
                                          rfl
                                        refine pure_ (i := 4) (N := some 85) (v := ?_) (a' := ?_) #[true, false, true, true, true, false, false, false, false] rfl rfl (any_of HT_.out (by kernel_rfl)) (fun _ _ _ h => h) (Or.inl ⟨by rfl, ?_⟩) ?_ ?_
                                        rotate_left
                                        · intro w'
                                          go_simp
                                          with_reducible rfl
                                        rotate_left
                                        · simp only [Act.put, List.setIfInBounds_toArray, List.set_cons_zero, List.set_cons_succ, i64_w, i32_w]
                                          rfl
                                        refine take_ (i := 5) (N := some 86) (v := ?_) (a' := ?_) #[true, false, true, true, true, true, false, false, false] rfl rfl (take_ofW HT_.out HW_.out (by kernel_rfl)) (fun _ _ _ h => h) (Or.inl ⟨by rfl, ?_⟩) hHeld ?_ ?_
                                        rotate_left
                                        · intro w' s0
                                          go_simp
                                          with_reducible rfl
                                        rotate_left
                                        · simp only [Act.put, List.setIfInBounds_toArray, List.set_cons_zero, List.set_cons_succ, i64_w, i32_w]
                                          rfl
                                        refine one_ (i := 1) (N := some 82) #[true, true, true, true, true, true, false, false, false] rfl rfl (one_of HT_.out (by kernel_rfl)) (by decide) (fun K hK => ?_)
                                        refine goes_ Try.func27 (by kernel_rfl) rfl #[.pointer (some ⟨gb205, 0, none⟩)] (by rfl) rfl rfl (by (try simp only [List.map_toArray, List.map_cons, List.map_nil]); first | done | rfl | (simp only [List.length_drop, List.length_take]; rfl)) ?_
                                        with_reducible refine (queue_Queue_Next.calls gb205 x206000_5 x206001_5 x206002_5 x206003_5 x206004_5 t252 t253 t254 t255 t256 t257 t258 w _ ?side1 ?side2 A48.out).mono ?_
                                        (case side1 => repeat (first | (with_reducible first | exact HI205.out | apply IsS27.alloc | apply IsS27.drewN | apply IsS27.drew | apply IsS27.set_0 | apply IsS27.set_1 | apply IsS27.set_2 | apply IsS27.set_3 | apply IsS27.set_4) | exact HI205.out))
                                        (case side2 => repeat (first | (with_reducible first | exact HB.out | apply below_alloc | apply pw_below_drewN | apply below_drew1 | refine below_set ?_ (IsS27.ge HI204.out) | refine below_set ?_ (IsS27.ge HI205.out)) | exact HB.out))
                                        rintro e w54 ⟨rfl, hi, hb, hk⟩
                                        refine ⟨_, rfl, ?_⟩
                                        have n0_ := Aside0.mk ((show IsS27 w w54 gb204 x205000_4 x205001_4 x205002_4 x205003_4 x205004_4 from ⟨KeepBut.blk hk (show IsS27 w _ gb204 x205000_4 x205001_4 x205002_4 x205003_4 x205004_4 from by repeat (first | (with_reducible first | exact HI204.out | apply IsS27.alloc | apply IsS27.drewN | apply IsS27.drew | apply IsS27.set_0 | apply IsS27.set_1 | apply IsS27.set_2 | apply IsS27.set_3 | apply IsS27.set_4) | exact HI204.out)).1 NB204_205.out (by simp), (show IsS27 w _ gb204 x205000_4 x205001_4 x205002_4 x205003_4 x205004_4 from by repeat (first | (with_reducible first | exact HI204.out | apply IsS27.alloc | apply IsS27.drewN | apply IsS27.drew | apply IsS27.set_0 | apply IsS27.set_1 | apply IsS27.set_2 | apply IsS27.set_3 | apply IsS27.set_4) | exact HI204.out)).2⟩))
                                        have n1_ := Aside0.mk (hb)
                                        have n2_ := Aside0.mk (hi)
                                        clear HI204
                                        clear HB
                                        clear HI205
                                        have HI204 := n0_
                                        have HB := n1_
                                        have HI205 := n2_
                                        clear n0_ n1_ n2_
                                        (try clear hb)
                                        (try clear hb2)
                                        (try clear hk)
                                        (try clear hi)
                                        refine hK.out _ _ (((HB.out.cell (World.block_lt_of_cell? w _ hw259_0)).trans hw259_0)) (fun hHeld => ?_)
                                        clear hK K
                                        refine norm_ (a' := ?_) ?_ ?_
                                        rotate_left
                                        · show Act.put _ (some 82) _ = _
                                          simp only [Act.put, List.setIfInBounds_toArray, List.set_cons_zero, List.set_cons_succ, i64_w, i32_w]
                                          rfl
                                        refine one_ (i := 6) (N := some 87) #[true, true, true, true, true, true, true, false, false] rfl rfl (one_of HT_.out (by kernel_rfl)) (by decide) (fun K hK => ?_)
                                        refine goes_ Try.func25 (by kernel_rfl) rfl #[.int .i64 (rd l1 x10_5), .int .i64 256] (by rfl) rfl rfl (by (try simp only [List.map_toArray, List.map_cons, List.map_nil]); first | done | rfl | (simp only [List.length_drop, List.length_take]; rfl)) ?_
                                        with_reducible refine (plaitinglaw14_within.calls (rd l1 x10_5) 256 t260 _ A51.out).mono ?_
                                        rintro e w' ⟨rfl, ⟨nd, rfl⟩⟩
                                        refine ⟨_, rfl, ?_⟩
                                        refine hK.out _ _ (((HB.out.cell (World.block_lt_of_cell? w _ hw259_0)).trans hw259_0)) (fun hHeld => ?_)
                                        clear hK K
                                        refine norm_ (a' := ?_) ?_ ?_
                                        rotate_left
                                        · show Act.put _ (some 87) _ = _
                                          simp only [Act.put, List.setIfInBounds_toArray, List.set_cons_zero, List.set_cons_succ, i64_w, i32_w]
                                          rfl
                                        refine pure_ (i := 7) (N := some 88) (v := ?_) (a' := ?_) #[true, true, true, true, true, true, true, true, false] rfl rfl (any_of HT_.out (by kernel_rfl)) (fun _ _ _ h => h) (Or.inl ⟨by rfl, ?_⟩) ?_ ?_
                                        rotate_left
                                        · intro w'
                                          go_simp
                                          with_reducible rfl
                                        rotate_left
                                        · simp only [Act.put, List.setIfInBounds_toArray, List.set_cons_zero, List.set_cons_succ, i64_w, i32_w]
                                          rfl
                                        refine pure_ (i := 8) (N := some 89) (v := ?_) (a' := ?_) #[true, true, true, true, true, true, true, true, true] rfl rfl (any_of HT_.out (by kernel_rfl)) (fun _ _ _ h => h) (Or.inl ⟨by rfl, ?_⟩) ?_ ?_
                                        rotate_left
                                        · intro w'
                                          go_simp
                                          with_reducible rfl
                                        rotate_left
                                        · simp only [Act.put, List.setIfInBounds_toArray, List.set_cons_zero, List.set_cons_succ, i64_w, i32_w]
                                          rfl
                                        refine done_ (done_of HT_.out (by kernel_rfl)) ?_
                                        try go_wp2
                                        go_ret
                                        exact ⟨by first | rfl | (simp [errW_none, errW_some] <;> rfl) | (simp only [← hji8, ← hji17, ← hji46]; first | rfl | (simp [errW_none, errW_some] <;> rfl)) | (simp [*, errW_none, errW_some] <;> rfl), by repeat (first | (with_reducible first | exact HB.out | apply below_alloc | apply pw_below_drewN | apply below_drew1 | refine below_set ?_ (IsS27.ge HI204.out) | refine below_set ?_ (IsS27.ge HI205.out)) | exact HB.out)⟩
                                      · rw [if_neg c52] at H
                                        have c52b0 : (!(t252 == 2) || (!(t253 == t260))) = false := by simpa using c52
                                        clear c52
                                        have H' := Aside0.mk H
                                        clear H
                                        try go_wp2
                                        have n0_ := Aside0.mk (IsS27.drew HI204.out)
                                        have n1_ := Aside0.mk (IsS27.drew HI205.out)
                                        have n2_ := Aside0.mk (below_drew1 HB.out)
                                        clear HI204
                                        clear HI205
                                        clear HB
                                        have HI204 := n0_
                                        have HI205 := n1_
                                        have HB := n2_
                                        clear n0_ n1_ n2_
                                        have p259 : 0 ≤ (x10_5 : Int) := of_decide_eq_true (by first | (with_reducible assumption) | assumption)
                                        have q259 : x10_5 < (l1.length : Int) := of_decide_eq_true (by first | (with_reducible assumption) | assumption)
                                        obtain ⟨ad259, e259, hx259_0⟩ := Kd.at_int HR1.out x10_5 p259 q259
                                        have hw259_0 := hx259_0
                                        cases e259
                                        replace hx259_0 := (HB.out.cell (World.block_lt_of_cell? w _ hx259_0)).trans hx259_0
                                        replace p259 := eq_true p259
                                        replace q259 := eq_true q259
                                        refine start_ (n := 9) (S := fun w' => w'.cell? (ad259.add (x10_5).toNat) = some (.int .i64 (rd l1 x10_5))) (ds := []) #[false, false, false, false, false, false, false, false, false] (by kernel_rfl) rfl rfl (((HB.out.cell (World.block_lt_of_cell? w _ hw259_0)).trans hw259_0)) (fun hHeld => ?_); refine with_tabW plaitinglaw14_QueueApart.tab25 plaitinglaw14_QueueApart.bits25 (fun HT_ HW_ => ?_)
                                        generalize wr.drew = w55 at HI204 HI205 HB hx259_0 hHeld ⊢
                                        refine pure_ (i := 0) (N := some 81) (v := ?_) (a' := ?_) #[true, false, false, false, false, false, false, false, false] rfl rfl (any_of HT_.out (by kernel_rfl)) (fun _ _ _ h => h) (Or.inl ⟨by rfl, ?_⟩) ?_ ?_
                                        rotate_left
                                        · intro w'
                                          go_simp
                                          with_reducible rfl
                                        rotate_left
                                        · simp only [Act.put, List.setIfInBounds_toArray, List.set_cons_zero, List.set_cons_succ, i64_w, i32_w]
                                          rfl
                                        refine pure_ (i := 2) (N := some 83) (v := ?_) (a' := ?_) #[true, false, true, false, false, false, false, false, false] rfl rfl (any_of HT_.out (by kernel_rfl)) (fun _ _ _ h => h) (Or.inl ⟨by rfl, ?_⟩) ?_ ?_
                                        rotate_left
                                        · intro w'
                                          go_simp
                                          with_reducible rfl
                                        rotate_left
                                        · simp only [Act.put, List.setIfInBounds_toArray, List.set_cons_zero, List.set_cons_succ, i64_w, i32_w]
                                          rfl
                                        refine pure_ (i := 3) (N := some 84) (v := ?_) (a' := ?_) #[true, false, true, true, false, false, false, false, false] rfl rfl (any_of HT_.out (by kernel_rfl)) (fun _ _ _ h => h) (Or.inl ⟨by rfl, ?_⟩) ?_ ?_
                                        rotate_left
                                        · intro w'
                                          go_simp
                                          with_reducible rfl
                                        rotate_left
                                        · simp only [Act.put, List.setIfInBounds_toArray, List.set_cons_zero, List.set_cons_succ, i64_w, i32_w]
                                          rfl
                                        refine pure_ (i := 4) (N := some 85) (v := ?_) (a' := ?_) #[true, false, true, true, true, false, false, false, false] rfl rfl (any_of HT_.out (by kernel_rfl)) (fun _ _ _ h => h) (Or.inl ⟨by rfl, ?_⟩) ?_ ?_
                                        rotate_left
                                        · intro w'
                                          go_simp
                                          with_reducible rfl
                                        rotate_left
                                        · simp only [Act.put, List.setIfInBounds_toArray, List.set_cons_zero, List.set_cons_succ, i64_w, i32_w]
                                          rfl
                                        refine take_ (i := 5) (N := some 86) (v := ?_) (a' := ?_) #[true, false, true, true, true, true, false, false, false] rfl rfl (take_ofW HT_.out HW_.out (by kernel_rfl)) (fun _ _ _ h => h) (Or.inl ⟨by rfl, ?_⟩) hHeld ?_ ?_
                                        rotate_left
                                        · intro w' s0
                                          go_simp
                                          with_reducible rfl
                                        rotate_left
                                        · simp only [Act.put, List.setIfInBounds_toArray, List.set_cons_zero, List.set_cons_succ, i64_w, i32_w]
                                          rfl
                                        refine one_ (i := 1) (N := some 82) #[true, true, true, true, true, true, false, false, false] rfl rfl (one_of HT_.out (by kernel_rfl)) (by decide) (fun K hK => ?_)
                                        refine goes_ Try.func27 (by kernel_rfl) rfl #[.pointer (some ⟨gb205, 0, none⟩)] (by rfl) rfl rfl (by (try simp only [List.map_toArray, List.map_cons, List.map_nil]); first | done | rfl | (simp only [List.length_drop, List.length_take]; rfl)) ?_
                                        with_reducible refine (queue_Queue_Next.calls gb205 x206000_5 x206001_5 x206002_5 x206003_5 x206004_5 t252 t253 t254 t255 t256 t257 t258 w _ ?side1 ?side2 A48.out).mono ?_
                                        (case side1 => repeat (first | (with_reducible first | exact HI205.out | apply IsS27.alloc | apply IsS27.drewN | apply IsS27.drew | apply IsS27.set_0 | apply IsS27.set_1 | apply IsS27.set_2 | apply IsS27.set_3 | apply IsS27.set_4) | exact HI205.out))
                                        (case side2 => repeat (first | (with_reducible first | exact HB.out | apply below_alloc | apply pw_below_drewN | apply below_drew1 | refine below_set ?_ (IsS27.ge HI204.out) | refine below_set ?_ (IsS27.ge HI205.out)) | exact HB.out))
                                        rintro e w56 ⟨rfl, hi, hb, hk⟩
                                        refine ⟨_, rfl, ?_⟩
                                        have n0_ := Aside0.mk ((show IsS27 w w56 gb204 x205000_4 x205001_4 x205002_4 x205003_4 x205004_4 from ⟨KeepBut.blk hk (show IsS27 w _ gb204 x205000_4 x205001_4 x205002_4 x205003_4 x205004_4 from by repeat (first | (with_reducible first | exact HI204.out | apply IsS27.alloc | apply IsS27.drewN | apply IsS27.drew | apply IsS27.set_0 | apply IsS27.set_1 | apply IsS27.set_2 | apply IsS27.set_3 | apply IsS27.set_4) | exact HI204.out)).1 NB204_205.out (by simp), (show IsS27 w _ gb204 x205000_4 x205001_4 x205002_4 x205003_4 x205004_4 from by repeat (first | (with_reducible first | exact HI204.out | apply IsS27.alloc | apply IsS27.drewN | apply IsS27.drew | apply IsS27.set_0 | apply IsS27.set_1 | apply IsS27.set_2 | apply IsS27.set_3 | apply IsS27.set_4) | exact HI204.out)).2⟩))
                                        have n1_ := Aside0.mk (hb)
                                        have n2_ := Aside0.mk (hi)
                                        clear HI204
                                        clear HB
                                        clear HI205
                                        have HI204 := n0_
                                        have HB := n1_
                                        have HI205 := n2_
                                        clear n0_ n1_ n2_
                                        (try clear hb)
                                        (try clear hb2)
                                        (try clear hk)
                                        (try clear hi)
                                        refine hK.out _ _ (((HB.out.cell (World.block_lt_of_cell? w _ hw259_0)).trans hw259_0)) (fun hHeld => ?_)
                                        clear hK K
                                        refine norm_ (a' := ?_) ?_ ?_
                                        rotate_left
                                        · show Act.put _ (some 82) _ = _
                                          simp only [Act.put, List.setIfInBounds_toArray, List.set_cons_zero, List.set_cons_succ, i64_w, i32_w]
                                          rfl
                                        refine one_ (i := 6) (N := some 87) #[true, true, true, true, true, true, true, false, false] rfl rfl (one_of HT_.out (by kernel_rfl)) (by decide) (fun K hK => ?_)
                                        refine goes_ Try.func25 (by kernel_rfl) rfl #[.int .i64 (rd l1 x10_5), .int .i64 256] (by rfl) rfl rfl (by (try simp only [List.map_toArray, List.map_cons, List.map_nil]); first | done | rfl | (simp only [List.length_drop, List.length_take]; rfl)) ?_
                                        with_reducible refine (plaitinglaw14_within.calls (rd l1 x10_5) 256 t260 _ A51.out).mono ?_
                                        rintro e w' ⟨rfl, ⟨nd, rfl⟩⟩
                                        refine ⟨_, rfl, ?_⟩
                                        refine hK.out _ _ (((HB.out.cell (World.block_lt_of_cell? w _ hw259_0)).trans hw259_0)) (fun hHeld => ?_)
                                        clear hK K
                                        refine norm_ (a' := ?_) ?_ ?_
                                        rotate_left
                                        · show Act.put _ (some 87) _ = _
                                          simp only [Act.put, List.setIfInBounds_toArray, List.set_cons_zero, List.set_cons_succ, i64_w, i32_w]
                                          rfl
                                        refine pure_ (i := 7) (N := some 88) (v := ?_) (a' := ?_) #[true, true, true, true, true, true, true, true, false] rfl rfl (any_of HT_.out (by kernel_rfl)) (fun _ _ _ h => h) (Or.inl ⟨by rfl, ?_⟩) ?_ ?_
                                        rotate_left
                                        · intro w'
                                          go_simp
                                          with_reducible rfl
                                        rotate_left
                                        · simp only [Act.put, List.setIfInBounds_toArray, List.set_cons_zero, List.set_cons_succ, i64_w, i32_w]
                                          rfl
                                        refine pure_ (i := 8) (N := some 89) (v := ?_) (a' := ?_) #[true, true, true, true, true, true, true, true, true] rfl rfl (any_of HT_.out (by kernel_rfl)) (fun _ _ _ h => h) (Or.inl ⟨by rfl, ?_⟩) ?_ ?_
                                        rotate_left
                                        · intro w'
                                          go_simp
                                          with_reducible rfl
                                        rotate_left
                                        · simp only [Act.put, List.setIfInBounds_toArray, List.set_cons_zero, List.set_cons_succ, i64_w, i32_w]
                                          rfl
                                        refine done_ (done_of HT_.out (by kernel_rfl)) ?_
                                        try go_wp2
                                        go_roundg k5
                                        case measure => have := HK1.out; have := HK2.out; have := HJ26.out; have := HK4.out; have := HK5.out; omega
                                        case rel => exact ⟨(wrap64 (x10_5 + 1)), (t254), (t255), (t256), (t257), (t258), (by first | rfl | (simp; done) | (simp [*]; done)), H', ⟨by have := HK1.out; have := HK2.out; have := HJ26.out; have := HK4.out; have := HK5.out; omega⟩, ⟨by repeat (first | (with_reducible first | exact HI204.out | apply IsS27.alloc | apply IsS27.drewN | apply IsS27.drew | apply IsS27.set_0 | apply IsS27.set_1 | apply IsS27.set_2 | apply IsS27.set_3 | apply IsS27.set_4) | exact HI204.out)⟩, ⟨by repeat (first | (with_reducible first | exact HI205.out | apply IsS27.alloc | apply IsS27.drewN | apply IsS27.drew | apply IsS27.set_0 | apply IsS27.set_1 | apply IsS27.set_2 | apply IsS27.set_3 | apply IsS27.set_4) | exact HI205.out)⟩, ⟨by repeat (first | (with_reducible first | exact HB.out | apply below_alloc | apply pw_below_drewN | apply below_drew1 | refine below_set ?_ (IsS27.ge HI204.out) | refine below_set ?_ (IsS27.ge HI205.out)) | exact HB.out)⟩⟩
                                    · rw [if_neg c50] at H
                                      exact absurd H (by simp)
                                  · rw [if_neg c49] at H
                                    exact absurd H (by simp)
                                · rw [if_neg c47] at H
                                  have c47b0 : decide (x10_5 < (ji46)) = false := decide_eq_false c47
                                  clear c47
                                  replace H := Option.bind_eq_some_iff.mp H
                                  obtain ⟨⟨t261, t262, t263, t264, t265, t266⟩, A570, H⟩ := H
                                  replace H : (if t261 = 8 then ((queue_Queue_Next.f t262 t263 t264 t265 t266).bind fun bt267 => (if (bt267.1 == 2 && (bt267.2.1 == 0)) = true then ((queue_Queue_Len.f bt267.2.2.1 bt267.2.2.2.1 bt267.2.2.2.2.1 bt267.2.2.2.2.2.1 bt267.2.2.2.2.2.2).bind fun bt274 => (some (bt274.1 == 3))) else (some false))) else (some false)) = some r := H
                                  have A57 := Aside0.mk A570
                                  clear A570
                                  by_cases c58 : t261 = 8
                                  · rw [if_pos c58] at H
                                    have c58b0 : (t261 == 8) = true := beq_iff_eq.mpr c58
                                    have c58b1 : (t261 != 8) = false := bne_eq_false_iff_eq.mpr c58
                                    clear c58
                                    replace H := Option.bind_eq_some_iff.mp H
                                    obtain ⟨⟨t267, t268, t269, t270, t271, t272, t273⟩, A590, H⟩ := H
                                    replace H : (if (t267 == 2 && (t268 == 0)) = true then ((queue_Queue_Len.f t269 t270 t271 t272 t273).bind fun bt274 => (some (bt274.1 == 3))) else (some false)) = some r := H
                                    have A59 := Aside0.mk A590
                                    clear A590
                                    by_cases c60 : (t267 == 2 && (t268 == 0)) = true
                                    · rw [if_pos c60] at H
                                      have c60b0 : (t267 == 2 && (t268 == 0)) = true := c60
                                      (try (have c60b1 : decide (t267 = 2 && (t268 == 0)) = true := by simpa using c60))
                                      (try (have c60b2 : (t267 == 2 && (t268 == 0)) = true := by simpa using c60))
                                      clear c60
                                      replace H := Option.bind_eq_some_iff.mp H
                                      obtain ⟨⟨t274, t275, t276, t277, t278, t279⟩, A610, H⟩ := H
                                      replace H : (some (t274 == 3)) = some r := H
                                      have A61 := Aside0.mk A610
                                      clear A610
                                      obtain rfl := Option.some.inj H
                                      go_wp2_with (first | ((with_reducible refine gate_callee (f := 24) rfl ?_); refine goesL_ (some 91) rfl rfl Try.func24 (by kernel_rfl) rfl #[.pointer (some ⟨gb204, 0, none⟩), .int .i64 4] rfl (by (try simp only [List.map_toArray, List.map_cons, List.map_nil]); first | done | rfl | (simp only [List.length_drop, List.length_take]; rfl)) ?_; (with_reducible refine (queue_Queue_Send.calls gb204 x205000_4 x205001_4 x205002_4 x205003_4 x205004_4 4 t261 t262 t263 t264 t265 t266 w _ ?side1 ?side2 A57.out).mono ?_); (case side1 => repeat (first | (with_reducible first | exact HI204.out | apply IsS27.alloc | apply IsS27.drewN | apply IsS27.drew | apply IsS27.set_0 | apply IsS27.set_1 | apply IsS27.set_2 | apply IsS27.set_3 | apply IsS27.set_4) | exact HI204.out)); (case side2 => repeat (first | (with_reducible first | exact HB.out | apply below_alloc | apply pw_below_drewN | apply below_drew1 | refine below_set ?_ (IsS27.ge HI204.out) | refine below_set ?_ (IsS27.ge HI205.out)) | exact HB.out)); rintro e w62 ⟨rfl, hi, hb, hk⟩; refine ⟨_, rfl, ?_⟩; have n0_ := Aside0.mk ((show IsS27 w w62 gb205 x206000_5 x206001_5 x206002_5 x206003_5 x206004_5 from ⟨KeepBut.blk hk (show IsS27 w _ gb205 x206000_5 x206001_5 x206002_5 x206003_5 x206004_5 from by repeat (first | (with_reducible first | exact HI205.out | apply IsS27.alloc | apply IsS27.drewN | apply IsS27.drew | apply IsS27.set_0 | apply IsS27.set_1 | apply IsS27.set_2 | apply IsS27.set_3 | apply IsS27.set_4) | exact HI205.out)).1 NB205_204.out (by simp), (show IsS27 w _ gb205 x206000_5 x206001_5 x206002_5 x206003_5 x206004_5 from by repeat (first | (with_reducible first | exact HI205.out | apply IsS27.alloc | apply IsS27.drewN | apply IsS27.drew | apply IsS27.set_0 | apply IsS27.set_1 | apply IsS27.set_2 | apply IsS27.set_3 | apply IsS27.set_4) | exact HI205.out)).2⟩)); have n1_ := Aside0.mk (hb); have n2_ := Aside0.mk (hi); clear HI205; clear HB; clear HI204; have HI205 := n0_; have HB := n1_; have HI204 := n2_; clear n0_ n1_ n2_; (try clear hb); (try clear hb2); (try clear hk); (try clear hi)) | (go_at_call 27; (with_reducible refine (queue_Queue_Next.calls gb204 t262 t263 t264 t265 t266 t267 t268 t269 t270 t271 t272 t273 w _ ?side1 ?side2 A59.out).mono ?_); (case side1 => repeat (first | (with_reducible first | exact HI204.out | apply IsS27.alloc | apply IsS27.drewN | apply IsS27.drew | apply IsS27.set_0 | apply IsS27.set_1 | apply IsS27.set_2 | apply IsS27.set_3 | apply IsS27.set_4) | exact HI204.out)); (case side2 => repeat (first | (with_reducible first | exact HB.out | apply below_alloc | apply pw_below_drewN | apply below_drew1 | refine below_set ?_ (IsS27.ge HI204.out) | refine below_set ?_ (IsS27.ge HI205.out)) | exact HB.out)); rintro e w63 ⟨rfl, hi, hb, hk⟩; have n0_ := Aside0.mk ((show IsS27 w w63 gb205 x206000_5 x206001_5 x206002_5 x206003_5 x206004_5 from ⟨KeepBut.blk hk (show IsS27 w _ gb205 x206000_5 x206001_5 x206002_5 x206003_5 x206004_5 from by repeat (first | (with_reducible first | exact HI205.out | apply IsS27.alloc | apply IsS27.drewN | apply IsS27.drew | apply IsS27.set_0 | apply IsS27.set_1 | apply IsS27.set_2 | apply IsS27.set_3 | apply IsS27.set_4) | exact HI205.out)).1 NB205_204.out (by simp), (show IsS27 w _ gb205 x206000_5 x206001_5 x206002_5 x206003_5 x206004_5 from by repeat (first | (with_reducible first | exact HI205.out | apply IsS27.alloc | apply IsS27.drewN | apply IsS27.drew | apply IsS27.set_0 | apply IsS27.set_1 | apply IsS27.set_2 | apply IsS27.set_3 | apply IsS27.set_4) | exact HI205.out)).2⟩)); have n1_ := Aside0.mk (hb); have n2_ := Aside0.mk (hi); clear HI205; clear HB; clear HI204; have HI205 := n0_; have HB := n1_; have HI204 := n2_; clear n0_ n1_ n2_; (try clear hb); (try clear hb2); (try clear hk); (try clear hi)) | (go_at_call 26; (with_reducible refine (queue_Queue_Len.calls gb204 t269 t270 t271 t272 t273 t274 t275 t276 t277 t278 t279 w _ ?side1 ?side2 A61.out).mono ?_); (case side1 => repeat (first | (with_reducible first | exact HI204.out | apply IsS27.alloc | apply IsS27.drewN | apply IsS27.drew | apply IsS27.set_0 | apply IsS27.set_1 | apply IsS27.set_2 | apply IsS27.set_3 | apply IsS27.set_4) | exact HI204.out)); (case side2 => repeat (first | (with_reducible first | exact HB.out | apply below_alloc | apply pw_below_drewN | apply below_drew1 | refine below_set ?_ (IsS27.ge HI204.out) | refine below_set ?_ (IsS27.ge HI205.out)) | exact HB.out)); rintro e w64 ⟨rfl, hi, hb, hk⟩; have n0_ := Aside0.mk ((show IsS27 w w64 gb205 x206000_5 x206001_5 x206002_5 x206003_5 x206004_5 from ⟨KeepBut.blk hk (show IsS27 w _ gb205 x206000_5 x206001_5 x206002_5 x206003_5 x206004_5 from by repeat (first | (with_reducible first | exact HI205.out | apply IsS27.alloc | apply IsS27.drewN | apply IsS27.drew | apply IsS27.set_0 | apply IsS27.set_1 | apply IsS27.set_2 | apply IsS27.set_3 | apply IsS27.set_4) | exact HI205.out)).1 NB205_204.out (by simp), (show IsS27 w _ gb205 x206000_5 x206001_5 x206002_5 x206003_5 x206004_5 from by repeat (first | (with_reducible first | exact HI205.out | apply IsS27.alloc | apply IsS27.drewN | apply IsS27.drew | apply IsS27.set_0 | apply IsS27.set_1 | apply IsS27.set_2 | apply IsS27.set_3 | apply IsS27.set_4) | exact HI205.out)).2⟩)); have n1_ := Aside0.mk (hb); have n2_ := Aside0.mk (hi); clear HI205; clear HB; clear HI204; have HI205 := n0_; have HB := n1_; have HI204 := n2_; clear n0_ n1_ n2_; (try clear hb); (try clear hb2); (try clear hk); (try clear hi)))
                                      go_ret
                                      exact ⟨by first | rfl | (simp [errW_none, errW_some] <;> rfl) | (simp only [← hji8, ← hji17, ← hji46]; first | rfl | (simp [errW_none, errW_some] <;> rfl)) | (simp [*, errW_none, errW_some] <;> rfl), by repeat (first | (with_reducible first | exact HB.out | apply below_alloc | apply pw_below_drewN | apply below_drew1 | refine below_set ?_ (IsS27.ge HI204.out) | refine below_set ?_ (IsS27.ge HI205.out)) | exact HB.out)⟩
                                    · rw [if_neg c60] at H
                                      have c60b0 : (t267 == 2 && (t268 == 0)) = false := by simpa using c60
                                      (try (have c60b1 : decide (t267 = 2 && (t268 == 0)) = false := by simpa using c60))
                                      (try (have c60b2 : (t267 == 2 && (t268 == 0)) = false := by simpa using c60))
                                      (try (have c60b3 : ¬ (t267 = 2 && (t268 == 0)) := by simpa using c60))
                                      clear c60
                                      obtain rfl := Option.some.inj H
                                      go_wp2_with (first | ((with_reducible refine gate_callee (f := 24) rfl ?_); refine goesL_ (some 91) rfl rfl Try.func24 (by kernel_rfl) rfl #[.pointer (some ⟨gb204, 0, none⟩), .int .i64 4] rfl (by (try simp only [List.map_toArray, List.map_cons, List.map_nil]); first | done | rfl | (simp only [List.length_drop, List.length_take]; rfl)) ?_; (with_reducible refine (queue_Queue_Send.calls gb204 x205000_4 x205001_4 x205002_4 x205003_4 x205004_4 4 t261 t262 t263 t264 t265 t266 w _ ?side1 ?side2 A57.out).mono ?_); (case side1 => repeat (first | (with_reducible first | exact HI204.out | apply IsS27.alloc | apply IsS27.drewN | apply IsS27.drew | apply IsS27.set_0 | apply IsS27.set_1 | apply IsS27.set_2 | apply IsS27.set_3 | apply IsS27.set_4) | exact HI204.out)); (case side2 => repeat (first | (with_reducible first | exact HB.out | apply below_alloc | apply pw_below_drewN | apply below_drew1 | refine below_set ?_ (IsS27.ge HI204.out) | refine below_set ?_ (IsS27.ge HI205.out)) | exact HB.out)); rintro e w65 ⟨rfl, hi, hb, hk⟩; refine ⟨_, rfl, ?_⟩; have n0_ := Aside0.mk ((show IsS27 w w65 gb205 x206000_5 x206001_5 x206002_5 x206003_5 x206004_5 from ⟨KeepBut.blk hk (show IsS27 w _ gb205 x206000_5 x206001_5 x206002_5 x206003_5 x206004_5 from by repeat (first | (with_reducible first | exact HI205.out | apply IsS27.alloc | apply IsS27.drewN | apply IsS27.drew | apply IsS27.set_0 | apply IsS27.set_1 | apply IsS27.set_2 | apply IsS27.set_3 | apply IsS27.set_4) | exact HI205.out)).1 NB205_204.out (by simp), (show IsS27 w _ gb205 x206000_5 x206001_5 x206002_5 x206003_5 x206004_5 from by repeat (first | (with_reducible first | exact HI205.out | apply IsS27.alloc | apply IsS27.drewN | apply IsS27.drew | apply IsS27.set_0 | apply IsS27.set_1 | apply IsS27.set_2 | apply IsS27.set_3 | apply IsS27.set_4) | exact HI205.out)).2⟩)); have n1_ := Aside0.mk (hb); have n2_ := Aside0.mk (hi); clear HI205; clear HB; clear HI204; have HI205 := n0_; have HB := n1_; have HI204 := n2_; clear n0_ n1_ n2_; (try clear hb); (try clear hb2); (try clear hk); (try clear hi)) | (go_at_call 27; (with_reducible refine (queue_Queue_Next.calls gb204 t262 t263 t264 t265 t266 t267 t268 t269 t270 t271 t272 t273 w _ ?side1 ?side2 A59.out).mono ?_); (case side1 => repeat (first | (with_reducible first | exact HI204.out | apply IsS27.alloc | apply IsS27.drewN | apply IsS27.drew | apply IsS27.set_0 | apply IsS27.set_1 | apply IsS27.set_2 | apply IsS27.set_3 | apply IsS27.set_4) | exact HI204.out)); (case side2 => repeat (first | (with_reducible first | exact HB.out | apply below_alloc | apply pw_below_drewN | apply below_drew1 | refine below_set ?_ (IsS27.ge HI204.out) | refine below_set ?_ (IsS27.ge HI205.out)) | exact HB.out)); rintro e w66 ⟨rfl, hi, hb, hk⟩; have n0_ := Aside0.mk ((show IsS27 w w66 gb205 x206000_5 x206001_5 x206002_5 x206003_5 x206004_5 from ⟨KeepBut.blk hk (show IsS27 w _ gb205 x206000_5 x206001_5 x206002_5 x206003_5 x206004_5 from by repeat (first | (with_reducible first | exact HI205.out | apply IsS27.alloc | apply IsS27.drewN | apply IsS27.drew | apply IsS27.set_0 | apply IsS27.set_1 | apply IsS27.set_2 | apply IsS27.set_3 | apply IsS27.set_4) | exact HI205.out)).1 NB205_204.out (by simp), (show IsS27 w _ gb205 x206000_5 x206001_5 x206002_5 x206003_5 x206004_5 from by repeat (first | (with_reducible first | exact HI205.out | apply IsS27.alloc | apply IsS27.drewN | apply IsS27.drew | apply IsS27.set_0 | apply IsS27.set_1 | apply IsS27.set_2 | apply IsS27.set_3 | apply IsS27.set_4) | exact HI205.out)).2⟩)); have n1_ := Aside0.mk (hb); have n2_ := Aside0.mk (hi); clear HI205; clear HB; clear HI204; have HI205 := n0_; have HB := n1_; have HI204 := n2_; clear n0_ n1_ n2_; (try clear hb); (try clear hb2); (try clear hk); (try clear hi)))
                                      go_ret
                                      exact ⟨by first | rfl | (simp [errW_none, errW_some] <;> rfl) | (simp only [← hji8, ← hji17, ← hji46]; first | rfl | (simp [errW_none, errW_some] <;> rfl)) | (simp [*, errW_none, errW_some] <;> rfl), by repeat (first | (with_reducible first | exact HB.out | apply below_alloc | apply pw_below_drewN | apply below_drew1 | refine below_set ?_ (IsS27.ge HI204.out) | refine below_set ?_ (IsS27.ge HI205.out)) | exact HB.out)⟩
                                  · rw [if_neg c58] at H
                                    have c58b0 : (t261 == 8) = false := beq_eq_false_iff_ne.mpr c58
                                    have c58b1 : (t261 != 8) = true := bne_iff_ne.mpr c58
                                    obtain rfl := Option.some.inj H
                                    go_wp2_with (first | ((with_reducible refine gate_callee (f := 24) rfl ?_); refine goesL_ (some 91) rfl rfl Try.func24 (by kernel_rfl) rfl #[.pointer (some ⟨gb204, 0, none⟩), .int .i64 4] rfl (by (try simp only [List.map_toArray, List.map_cons, List.map_nil]); first | done | rfl | (simp only [List.length_drop, List.length_take]; rfl)) ?_; (with_reducible refine (queue_Queue_Send.calls gb204 x205000_4 x205001_4 x205002_4 x205003_4 x205004_4 4 t261 t262 t263 t264 t265 t266 w _ ?side1 ?side2 A57.out).mono ?_); (case side1 => repeat (first | (with_reducible first | exact HI204.out | apply IsS27.alloc | apply IsS27.drewN | apply IsS27.drew | apply IsS27.set_0 | apply IsS27.set_1 | apply IsS27.set_2 | apply IsS27.set_3 | apply IsS27.set_4) | exact HI204.out)); (case side2 => repeat (first | (with_reducible first | exact HB.out | apply below_alloc | apply pw_below_drewN | apply below_drew1 | refine below_set ?_ (IsS27.ge HI204.out) | refine below_set ?_ (IsS27.ge HI205.out)) | exact HB.out)); rintro e w67 ⟨rfl, hi, hb, hk⟩; refine ⟨_, rfl, ?_⟩; have n0_ := Aside0.mk ((show IsS27 w w67 gb205 x206000_5 x206001_5 x206002_5 x206003_5 x206004_5 from ⟨KeepBut.blk hk (show IsS27 w _ gb205 x206000_5 x206001_5 x206002_5 x206003_5 x206004_5 from by repeat (first | (with_reducible first | exact HI205.out | apply IsS27.alloc | apply IsS27.drewN | apply IsS27.drew | apply IsS27.set_0 | apply IsS27.set_1 | apply IsS27.set_2 | apply IsS27.set_3 | apply IsS27.set_4) | exact HI205.out)).1 NB205_204.out (by simp), (show IsS27 w _ gb205 x206000_5 x206001_5 x206002_5 x206003_5 x206004_5 from by repeat (first | (with_reducible first | exact HI205.out | apply IsS27.alloc | apply IsS27.drewN | apply IsS27.drew | apply IsS27.set_0 | apply IsS27.set_1 | apply IsS27.set_2 | apply IsS27.set_3 | apply IsS27.set_4) | exact HI205.out)).2⟩)); have n1_ := Aside0.mk (hb); have n2_ := Aside0.mk (hi); clear HI205; clear HB; clear HI204; have HI205 := n0_; have HB := n1_; have HI204 := n2_; clear n0_ n1_ n2_; (try clear hb); (try clear hb2); (try clear hk); (try clear hi)))
                                    go_ret
                                    exact ⟨by first | rfl | (simp [errW_none, errW_some] <;> rfl) | (simp only [← hji8, ← hji17, ← hji46]; first | rfl | (simp [errW_none, errW_some] <;> rfl)) | (simp [*, errW_none, errW_some] <;> rfl), by repeat (first | (with_reducible first | exact HB.out | apply below_alloc | apply pw_below_drewN | apply below_drew1 | refine below_set ?_ (IsS27.ge HI204.out) | refine below_set ?_ (IsS27.ge HI205.out)) | exact HB.out)⟩
  · replace c4 := Bool.eq_false_iff.mpr c4
    subst c4
    have H1 : (some false) = some r := by rw [if_neg (show ¬ (false = true) by decide)] at H; exact H
    clear H
    have H := H1
    clear H1
    obtain rfl := Option.some.inj H
    go_enter Try.func6, Try.ntmps6
    go_wp2_with (first | ((with_reducible refine gate_callee (f := 23) rfl ?_); refine goesL_ (some 11) rfl rfl Try.func23 (by kernel_rfl) rfl #[] rfl (by (try simp only [List.map_toArray, List.map_cons, List.map_nil]); first | done | rfl | (simp only [List.length_drop, List.length_take]; rfl)) ?_; (with_reducible refine (plaitinglaw14_known.calls  false _ A3.out).mono ?_); rintro e w68 ⟨rfl, hb⟩; refine ⟨_, rfl, ?_⟩; have n0_ := Aside0.mk (below_step (by repeat (first | (with_reducible first | exact HB.out | apply below_alloc | apply pw_below_drewN | apply below_drew1) | exact HB.out)) hb); clear HB; have HB := n0_; clear n0_; (try clear hb); (try clear hb2); (try clear hk); (try clear hi)))
    go_ret
    exact ⟨by first | rfl | (simp [errW_none, errW_some] <;> rfl) | (simp [*, errW_none, errW_some] <;> rfl), by repeat (first | (with_reducible first | exact HB.out | apply below_alloc | apply pw_below_drewN | apply below_drew1) | exact HB.out)⟩

/-- THE ONE PURE STATEMENT of plaitinglaw14_QueueApart: yours. -/
def plaitinglaw14_QueueApart.Pure : Prop := ∀ (l0 : List Int) (l1 : List Int), l0.length ≤ maxLen → l0.length * 8 ≤ 140737488351232 → (∀ x ∈ l0, (Lit.int .i64 x).wf = true) → l1.length ≤ maxLen → l1.length * 8 ≤ 140737488351232 → (∀ x ∈ l1, (Lit.int .i64 x).wf = true) → ∃ k, plaitinglaw14_QueueApart.f k l0 l1 = some true
theorem plaitinglaw14_QueueApart.walk (P : plaitinglaw14_QueueApart.Pure) (a0 : Option Addr) (len0 cap0 : Nat) (z0 : List Int) (a1 : Option Addr) (len1 cap1 : Nat) (z1 : List Int) (w : World) (w0 : (a0 = none ∧ len0 = 0 ∧ cap0 = 0 ∧ z0 = []) ∨ ∃ x, a0 = some x ∧ len0 ≤ cap0 ∧ cap0 ≤ maxLen ∧ z0.length = cap0 ∧ (∀ i, i < z0.length → w.cell? (x.add i) = some (.int .i64 (z0.getD i 0))) ∧ ∀ n ∈ z0, (Lit.int .i64 n).wf = true) (y0 : len0 * 8 ≤ 140737488351232) (w1 : (a1 = none ∧ len1 = 0 ∧ cap1 = 0 ∧ z1 = []) ∨ ∃ x, a1 = some x ∧ len1 ≤ cap1 ∧ cap1 ≤ maxLen ∧ z1.length = cap1 ∧ (∀ i, i < z1.length → w.cell? (x.add i) = some (.int .i64 (z1.getD i 0))) ∧ ∀ n ∈ z1, (Lit.int .i64 n).wf = true) (y1 : len1 * 8 ≤ 140737488351232) :
    Calls Try.prog 6 #[.slice a0 len0 cap0, .slice a1 len1 cap1] w fun e w' => e = .returned (.bool true) ∧ Below w.heap.size w w' := by
  obtain ⟨l0, rfl, hr0, hm0, hw0, hc0⟩ := ReadsInt.ofRowC w0
  obtain ⟨l1, rfl, hr1, hm1, hw1, hc1⟩ := ReadsInt.ofRowC w1
  obtain ⟨k, h⟩ := P l0 l1 hm0 y0 hw0 hm1 y1 hw1
  refine (plaitinglaw14_QueueApart.calls k _ _ l0 _ _ l1 true w (Kd.C_of_reads (d := (0 : Int)) (h1 := fun _ => rfl) hr0) hc0 (Kd.C_of_reads (d := (0 : Int)) (h1 := fun _ => rfl) hr1) hc1 h).mono ?_
  rintro e w' ⟨rfl, hd⟩
  exact ⟨rfl, hd⟩

end Go.Proofs.Ytnggjnhfdjjphaa.PQ
