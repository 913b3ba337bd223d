-- Written by the session's own program (wip/gen).
import Derived.Test.YtnggjnhfdjjphaaPSAx0
import Derived.Test.YtnggjnhfdjjphaaPSAx1
import Derived.Test.YtnggjnhfdjjphaaPSAx3
import Derived.Test.YtnggjnhfdjjphaaPSAx4
import Derived.Test.YtnggjnhfdjjphaaPSAx5
import Derived.Test.YtnggjnhfdjjphaaPSAx6
import Derived.Test.YtnggjnhfdjjphaaPSAx7
import Derived.Test.YtnggjnhfdjjphaaPSAx8
import Derived.Test.YtnggjnhfdjjphaaPSAx9
namespace Go.Proofs.Ytnggjnhfdjjphaa.PSA
open Go.RowKit Go.Proofs.YtnggjnhfdjjphaaW.PrintWords Go.Proofs.YtnggjnhfdjjphaaW.PrintLast Go.Proofs.YtnggjnhfdjjphaaW.PrintMore
attribute [local go_sem] max2_int min2_int max_two min_two max_three min_three max_four min_four   -- for this text's walks alone
set_option linter.unusedVariables false
set_option linter.unusedSimpArgs false

/-! ### plaitingref1_Front: function 58 -/
def plaitingref1_Front.f (a0 : ByteArray) (a1 : ByteArray) : Option (Bool) := if (a0.size : Int) ≤ (a1.size : Int) then (if 0 ≤ (a0.size : Int) then (some ((a1.extract 0 ((a0.size : Int) : Int).toNat).toList == a0.toList)) else (none)) else (some false)
set_option maxHeartbeats 8000000 in
set_option maxRecDepth 100000 in
theorem plaitingref1_Front.calls (a0 : ByteArray) (a1 : ByteArray) (r : Bool) (w : World) (h : plaitingref1_Front.f a0 a1 = some r) :
    Calls Try.prog 58 #[.string a0, .string a1] w fun e w' => e = .returned (.bool r) ∧ Drawn0 w w' := by
  have H : (if (a0.size : Int) ≤ (a1.size : Int) then (if 0 ≤ (a0.size : Int) then (some ((a1.extract 0 ((a0.size : Int) : Int).toNat).toList == a0.toList)) else (none)) else (some false)) = some r := h
  clear h
  by_cases c3 : (a0.size : Int) ≤ (a1.size : Int)
  · rw [if_pos c3] at H
    have c3b0 : decide ((a0.size : Int) ≤ (a1.size : Int)) = true := decide_eq_true c3
    have c3b1 : decide (a0.size ≤ a1.size) = true := decide_eq_true (Int.ofNat_le.mp c3)
    clear c3
    by_cases c4 : 0 ≤ (a0.size : Int)
    · rw [if_pos c4] at H
      have c4b0 := eq_true c4
      have c4b1 : decide (0 ≤ (a0.size : Int)) = true := decide_eq_true c4
      clear c4
      have c5b0 := eq_true (of_decide_eq_true (by first | (with_reducible assumption) | assumption) : (a0.size : Int) ≤ (a1.size : Int))
      obtain rfl := Option.some.inj H
      go_enter Try.func58, Try.ntmps58
      go_wp2
      go_ret
      exact ⟨by first | rfl | (simp; done) | (simp [*]; done), by repeat (first | exact Drawn0.refl _ | apply Drawn0.step)⟩
    · rw [if_neg c4] at H
      exact absurd H (by simp)
  · rw [if_neg c3] at H
    have c3b0 : decide ((a0.size : Int) ≤ (a1.size : Int)) = false := decide_eq_false c3
    have c3b1 : decide (a0.size ≤ a1.size) = false := decide_eq_false (fun h => c3 (Int.ofNat_le.mpr h))
    clear c3
    obtain rfl := Option.some.inj H
    go_enter Try.func58, Try.ntmps58
    go_wp2
    go_ret
    exact ⟨by first | rfl | (simp; done) | (simp [*]; done), by repeat (first | exact Drawn0.refl _ | apply Drawn0.step)⟩

/-! ### plaitinglaw1_SymAll: function 21 (by hand) -/
/-- Two answers that are there, and the same. -/
def same {α : Type} [DecidableEq α] (a b : Option α) : Bool := a.isSome && decide (a = b)
theorem same_iff {α : Type} [DecidableEq α] {a b : Option α} (h : same a b = true) : ∃ c, a = some c ∧ b = some c := by
  unfold same at h
  rw [Bool.and_eq_true, decide_eq_true_eq] at h
  obtain ⟨c, hc⟩ := Option.isSome_iff_exists.1 h.1
  exact ⟨c, hc, h.2 ▸ hc⟩
def one_ok (k : Nat) (a : Int) (x : ByteArray) : Bool :=
  same (sym_Clean.f x) (plaitingref1_Clean.f k x) && same (sym_Whole.f x) (plaitingref1_Whole.f k x) && same (sym_Turn.f x a) (plaitingref1_Turn.f k x a) &&
  match plaitinglaw1_within.f a (wrap64 ((x.size : Int) + 1)) with | some j => same (sym_Turn.f x j) (plaitingref1_Turn.f k x j) | none => false
def two_ok (k : Nat) (x y : ByteArray) : Bool := same (sym_Common.f k x y) (plaitingref1_Common.f k x y) && same (sym_Front.f x y) (plaitingref1_Front.f x y)
def five (t u s : ByteArray) : List ByteArray := [t, u, s, t ++ s, ⟨#[]⟩]
def all_ok (k : Nat) (a : Int) (l : List ByteArray) : Bool := l.all (fun x => one_ok k a x) && l.all (fun x => l.all fun y => two_ok k x y)
/-- What SymAll answers. -/
def plaitinglaw1_SymAll.f (k : Nat) (l0 l1 : List Int) (a2 : ByteArray) (a3 : Int) : Option Bool :=
  (plaitinglaw1_known.f k).bind fun q => if q = true then (if 200 < a2.size then some true else (plaitinglaw1_Text.f k l0).bind fun t => (plaitinglaw1_Text.f k l1).bind fun u =>
    if t.size ≤ 200 ∧ u.size ≤ 200 ∧ all_ok k a3 (five t u a2) = true then some true else none) else none
def at5 (l : List ByteArray) (j : Nat) : ByteArray := l[j]?.getD ⟨#[]⟩
theorem all_one {k : Nat} {a : Int} {l : List ByteArray} (h : all_ok k a l = true) (j : Nat) (hj : j < l.length) : one_ok k a (at5 l j) = true := by
  unfold all_ok at h
  rw [Bool.and_eq_true] at h
  have := List.all_eq_true.1 h.1 (l[j]) (by simp)
  simpa [at5, hj] using this
theorem all_two {k : Nat} {a : Int} {l : List ByteArray} (h : all_ok k a l = true) (i j : Nat) (hi : i < l.length) (hj : j < l.length) : two_ok k (at5 l i) (at5 l j) = true := by
  unfold all_ok at h
  rw [Bool.and_eq_true] at h
  have := List.all_eq_true.1 (List.all_eq_true.1 h.2 (l[i]) (by simp)) (l[j]) (by simp)
  simpa [at5, hi, hj] using this
theorem one_of {k : Nat} {a : Int} {x : ByteArray} (h : one_ok k a x = true) : (∃ c, sym_Clean.f x = some c ∧ plaitingref1_Clean.f k x = some c) ∧ (∃ c, sym_Whole.f x = some c ∧ plaitingref1_Whole.f k x = some c) ∧ (∃ c, sym_Turn.f x a = some c ∧ plaitingref1_Turn.f k x a = some c) ∧
    ∃ j, plaitinglaw1_within.f a (wrap64 ((x.size : Int) + 1)) = some j ∧ ∃ c, sym_Turn.f x j = some c ∧ plaitingref1_Turn.f k x j = some c := by
  unfold one_ok at h
  rw [Bool.and_eq_true, Bool.and_eq_true, Bool.and_eq_true] at h
  obtain ⟨⟨⟨h1, h2⟩, h3⟩, h4⟩ := h
  refine ⟨same_iff h1, same_iff h2, same_iff h3, ?_⟩
  split at h4
  · rename_i j hj
    exact ⟨j, hj, same_iff h4⟩
  · exact absurd h4 (by simp)
theorem two_of {k : Nat} {x y : ByteArray} (h : two_ok k x y = true) : (∃ c, sym_Common.f k x y = some c ∧ plaitingref1_Common.f k x y = some c) ∧ ∃ c, sym_Front.f x y = some c ∧ plaitingref1_Front.f x y = some c := by
  unfold two_ok at h
  rw [Bool.and_eq_true] at h
  exact ⟨same_iff h.1, same_iff h.2⟩
theorem cells5 (W : World) (t u s v : ByteArray) (j : Nat) (h : j < 5) : (W.alloc (.cells #[.string t, .string u, .string s, .string v, .string ⟨#[]⟩] 9)).cell? ⟨W.heap.size, j, none⟩ = some (.string (at5 [t, u, s, v, ⟨#[]⟩] j)) := by
  unfold World.cell?
  rw [heap_alloc_new]
  match j, h with
  | 0, _ => rfl
  | 1, _ => rfl
  | 2, _ => rfl
  | 3, _ => rfl
  | 4, _ => rfl
theorem keep_cell {w W : World} {p : Addr} {v : Value} (hb : Below w.heap.size w W) (hx : w.cell? p = some v) : W.cell? p = some v := (hb.cell (World.block_lt_of_cell? w _ hx)).trans hx
theorem keep_cell_d {w W : World} {p : Addr} {v : Value} (hb : Below w.drew.heap.size w.drew W) (hx : w.cell? p = some v) : W.cell? p = some v := keep_cell (w := w.drew) hb hx
def held (l : List ByteArray) (G : Nat) (w : World) : Prop := ∀ j, j < 5 → w.cell? ⟨G, j, none⟩ = some (.string (at5 l j))
theorem keep_held {l : List ByteArray} {G : Nat} {w W : World} (hb : Below w.heap.size w W) (hx : held l G w) : held l G W := fun j hj => keep_cell hb (hx j hj)
theorem keep_held_d {l : List ByteArray} {G : Nat} {w W : World} (hb : Below w.drew.heap.size w.drew W) (hx : held l G w) : held l G W := fun j hj => keep_cell_d hb (hx j hj)
set_option maxHeartbeats 8000000 in
set_option maxRecDepth 100000 in
theorem all_walk (k : Nat) (A0 : Option Addr) (c0 : Nat) (l0 : List Int) (A1 : Option Addr) (c1 : Nat) (l1 : List Int) (a2 : ByteArray) (a3 : Int) (t u : ByteArray) (hq : plaitinglaw1_known.f k = some true) (hz : a2.size ≤ 200) (ht : plaitinglaw1_Text.f k l0 = some t) (hu : plaitinglaw1_Text.f k l1 = some u) (hts : t.size ≤ 200) (hus : u.size ≤ 200) (hok : all_ok k a3 (five t u a2) = true) (w : World) (hr0 : Kd.C (Kd.int .i64) w A0 l0.length l0) (hc0 : l0.length ≤ c0) (hr1 : Kd.C (Kd.int .i64) w A1 l1.length l1) (hc1 : l1.length ≤ c1) :
    Calls Try.prog 21 #[.slice A0 l0.length c0, .slice A1 l1.length c1, .string a2, .int .i64 a3] w fun e w' => e = .returned (.bool true) ∧ Below w.heap.size w w' := by
  have HR0 := Aside0.mk hr0
  have HR1 := Aside0.mk hr1
  clear hr0 hr1
  have HB := Aside0.mk (Below.refl w.heap.size w)
  have HO := Aside0.mk hok
  clear hok
  have d0 : decide (200 < (a2.size : Int)) = false := by rw [decide_eq_false_iff_not]; omega
  have d1 : decide (200 < a2.size) = false := by rw [decide_eq_false_iff_not]; omega
  go_enter Try.func21, Try.ntmps21
  go_wp2_with (first
    | (go_at_call 37; with_reducible refine (plaitinglaw1_known.calls k true _ hq).mono ?_; rintro e W ⟨rfl, hb⟩; have n_ := Aside0.mk (below_step (by repeat (first | (with_reducible first | exact HB.out | apply below_alloc | apply pw_below_drewN | apply below_drew1) | exact HB.out)) hb); clear HB hb; have HB := n_; clear n_)
    | (go_at_call 39; with_reducible refine (plaitinglaw1_Text.calls k A0 c0 l0 t _ (by repeat (first | exact (Kd.C_below HR0.out HB.out) | (with_reducible refine Kd.C_alloc ?_ _) | (with_reducible refine Kd.C_drewN ?_ _) | (with_reducible refine Kd.C_drew ?_))) hc0 ht).mono ?_; rintro e W ⟨rfl, hb⟩; have n_ := Aside0.mk (below_step (by repeat (first | (with_reducible first | exact HB.out | apply below_alloc | apply pw_below_drewN | apply below_drew1) | exact HB.out)) hb); clear HB hb; have HB := n_; clear n_)
    | (go_at_call 39; with_reducible refine (plaitinglaw1_Text.calls k A1 c1 l1 u _ (by repeat (first | exact (Kd.C_below HR1.out HB.out) | (with_reducible refine Kd.C_alloc ?_ _) | (with_reducible refine Kd.C_drewN ?_ _) | (with_reducible refine Kd.C_drew ?_))) hc1 hu).mono ?_; rintro e W ⟨rfl, hb⟩; have n_ := Aside0.mk (below_step (by repeat (first | (with_reducible first | exact HB.out | apply below_alloc | apply pw_below_drewN | apply below_drew1) | exact HB.out)) hb); clear HB hb; have HB := n_; clear n_))
  have hc := fun j hj => cells5 W t u a2 (t ++ a2) j hj
  have hbw : Below w.heap.size w (W.alloc (.cells #[.string t, .string u, .string a2, .string (t ++ a2), .string ⟨#[]⟩] 9)) := (by repeat (first | (with_reducible first | exact HB.out | apply below_alloc | apply pw_below_drewN | apply below_drew1) | exact HB.out))
  have hone := fun j hj => one_of (all_one HO.out j hj)
  have htwo := fun i j hi hj => two_of (all_two HO.out i j hi hj)
  change ∀ j, j < 5 → _ at hone
  change ∀ i j, i < 5 → j < 5 → _ at htwo
  rw [show five t u a2 = [t, u, a2, t ++ a2, ⟨#[]⟩] from rfl] at hone htwo
  generalize hl : [t, u, a2, t ++ a2, ⟨#[]⟩] = l at hc hone htwo
  clear HO hl hq ht hu hz hts hus d0 d1
  have HC := Aside0.mk (show held l W.heap.size _ from hc)
  have H1 := Aside0.mk hone
  have H2 := Aside0.mk htwo
  clear hc hone htwo
  generalize W.heap.size = G at HC ⊢
  go_loopw [10] (fun i w' => ∃ n : Nat, i = .int .i64 n ∧ n ≤ 5 ∧ Aside0 (held l G w') ∧ Aside0 (Below w.heap.size w w')) (fun i _ => 5 - (intOf i).toNat)
  case atStart => exact ⟨0, rfl, by omega, HC, ⟨hbw⟩⟩
  case round =>
    clear HC HB hbw
    obtain ⟨n, rfl, hn5, HC, HB⟩ := hrel
    by_cases hn : n < 5
    · have d2 : decide ((n : Int) < 5) = true := decide_eq_true (by omega)
      have p2 : (0 : Int) ≤ (n : Int) := Int.natCast_nonneg n
      have q2 : (n : Int) < 5 := by omega
      have hx := HC.out n hn
      obtain ⟨⟨c1_, e11, e12⟩, ⟨c2_, e21, e22⟩, ⟨c3_, e31, e32⟩, j4, e40, c4_, e41, e42⟩ := H1.out n hn
      generalize hxx : at5 l n = x at hx e11 e12 e21 e22 e31 e32 e40 e41 e42
      have E := Aside0.mk (And.intro e11 (And.intro e12 (And.intro e21 (And.intro e22 (And.intro e31 (And.intro e32 (And.intro e40 (And.intro e41 e42))))))))
      have HXX := Aside0.mk hxx
      clear e11 e12 e21 e22 e31 e32 e40 e41 e42 hxx
      go_wp2
      simp only [List.append]
      go_region_held3 (fun w' => w'.cell? ⟨G, n, none⟩ = some (.string x)) (first | assumption | go_keep) (first
        | (go_at_call 38; with_reducible refine (sym_Clean.calls x c1_ _ E.out.1).mono ?_; rintro e W ⟨rfl, hb⟩; have n_ := Aside0.mk (below_step (by repeat (first | (with_reducible first | exact HB.out | apply below_alloc | apply pw_below_drewN | apply below_drew1) | exact HB.out)) hb); have hb0 := hb; clear HB hb; have HB := n_; clear n_; (first | have hx_ := keep_cell hb0 hx | have hx_ := keep_cell_d hb0 hx); clear hx; have hx := hx_; clear hx_; (first | have c_ := Aside0.mk (keep_held hb0 HC.out) | have c_ := Aside0.mk (keep_held_d hb0 HC.out)); clear HC hb0; have HC := c_; clear c_)
        | (go_at_call 40; with_reducible refine (plaitingref1_Clean.calls k x c1_ _ E.out.2.1).mono ?_; rintro e W ⟨rfl, hd⟩; have hb := hd.below; clear hd; have n_ := Aside0.mk (below_step (by repeat (first | (with_reducible first | exact HB.out | apply below_alloc | apply pw_below_drewN | apply below_drew1) | exact HB.out)) hb); have hb0 := hb; clear HB hb; have HB := n_; clear n_; (first | have hx_ := keep_cell hb0 hx | have hx_ := keep_cell_d hb0 hx); clear hx; have hx := hx_; clear hx_; (first | have c_ := Aside0.mk (keep_held hb0 HC.out) | have c_ := Aside0.mk (keep_held_d hb0 HC.out)); clear HC hb0; have HC := c_; clear c_)
        | (go_at_call 41; with_reducible refine (sym_Whole.calls x c2_ _ E.out.2.2.1).mono ?_; rintro e W ⟨rfl, hb⟩; have n_ := Aside0.mk (below_step (by repeat (first | (with_reducible first | exact HB.out | apply below_alloc | apply pw_below_drewN | apply below_drew1) | exact HB.out)) hb); have hb0 := hb; clear HB hb; have HB := n_; clear n_; (first | have hx_ := keep_cell hb0 hx | have hx_ := keep_cell_d hb0 hx); clear hx; have hx := hx_; clear hx_; (first | have c_ := Aside0.mk (keep_held hb0 HC.out) | have c_ := Aside0.mk (keep_held_d hb0 HC.out)); clear HC hb0; have HC := c_; clear c_)
        | (go_at_call 56; with_reducible refine (plaitingref1_Whole.calls k x c2_ _ E.out.2.2.2.1).mono ?_; rintro e W ⟨rfl, hd⟩; have hb := hd.below; clear hd; have n_ := Aside0.mk (below_step (by repeat (first | (with_reducible first | exact HB.out | apply below_alloc | apply pw_below_drewN | apply below_drew1) | exact HB.out)) hb); have hb0 := hb; clear HB hb; have HB := n_; clear n_; (first | have hx_ := keep_cell hb0 hx | have hx_ := keep_cell_d hb0 hx); clear hx; have hx := hx_; clear hx_; (first | have c_ := Aside0.mk (keep_held hb0 HC.out) | have c_ := Aside0.mk (keep_held_d hb0 HC.out)); clear HC hb0; have HC := c_; clear c_)
        | (go_at_call 48; with_reducible refine (sym_Turn.calls x a3 c3_ _ E.out.2.2.2.2.1).mono ?_; rintro e W ⟨rfl, hb⟩; have n_ := Aside0.mk (below_step (by repeat (first | (with_reducible first | exact HB.out | apply below_alloc | apply pw_below_drewN | apply below_drew1) | exact HB.out)) hb); have hb0 := hb; clear HB hb; have HB := n_; clear n_; (first | have hx_ := keep_cell hb0 hx | have hx_ := keep_cell_d hb0 hx); clear hx; have hx := hx_; clear hx_; (first | have c_ := Aside0.mk (keep_held hb0 HC.out) | have c_ := Aside0.mk (keep_held_d hb0 HC.out)); clear HC hb0; have HC := c_; clear c_)
        | (go_at_call 54; with_reducible refine (plaitingref1_Turn.calls k x a3 c3_ _ E.out.2.2.2.2.2.1).mono ?_; rintro e W ⟨rfl, hd⟩; have hb := hd.below; clear hd; have n_ := Aside0.mk (below_step (by repeat (first | (with_reducible first | exact HB.out | apply below_alloc | apply pw_below_drewN | apply below_drew1) | exact HB.out)) hb); have hb0 := hb; clear HB hb; have HB := n_; clear n_; (first | have hx_ := keep_cell hb0 hx | have hx_ := keep_cell_d hb0 hx); clear hx; have hx := hx_; clear hx_; (first | have c_ := Aside0.mk (keep_held hb0 HC.out) | have c_ := Aside0.mk (keep_held_d hb0 HC.out)); clear HC hb0; have HC := c_; clear c_)
        | (go_at_call 44; with_reducible refine (plaitinglaw1_within.calls a3 (IntKind.i64.wrap ((x.size : Int) + 1)) j4 _ (by rw [i64_w]; exact E.out.2.2.2.2.2.2.1)).mono ?_; rintro e W ⟨rfl, hd⟩; have hb := hd.below; clear hd; have n_ := Aside0.mk (below_step (by repeat (first | (with_reducible first | exact HB.out | apply below_alloc | apply pw_below_drewN | apply below_drew1) | exact HB.out)) hb); have hb0 := hb; clear HB hb; have HB := n_; clear n_; (first | have hx_ := keep_cell hb0 hx | have hx_ := keep_cell_d hb0 hx); clear hx; have hx := hx_; clear hx_; (first | have c_ := Aside0.mk (keep_held hb0 HC.out) | have c_ := Aside0.mk (keep_held_d hb0 HC.out)); clear HC hb0; have HC := c_; clear c_)
        | (go_at_call 48; with_reducible refine (sym_Turn.calls x j4 c4_ _ E.out.2.2.2.2.2.2.2.1).mono ?_; rintro e W ⟨rfl, hb⟩; have n_ := Aside0.mk (below_step (by repeat (first | (with_reducible first | exact HB.out | apply below_alloc | apply pw_below_drewN | apply below_drew1) | exact HB.out)) hb); have hb0 := hb; clear HB hb; have HB := n_; clear n_; (first | have hx_ := keep_cell hb0 hx | have hx_ := keep_cell_d hb0 hx); clear hx; have hx := hx_; clear hx_; (first | have c_ := Aside0.mk (keep_held hb0 HC.out) | have c_ := Aside0.mk (keep_held_d hb0 HC.out)); clear HC hb0; have HC := c_; clear c_)
        | (go_at_call 54; with_reducible refine (plaitingref1_Turn.calls k x j4 c4_ _ E.out.2.2.2.2.2.2.2.2).mono ?_; rintro e W ⟨rfl, hd⟩; have hb := hd.below; clear hd; have n_ := Aside0.mk (below_step (by repeat (first | (with_reducible first | exact HB.out | apply below_alloc | apply pw_below_drewN | apply below_drew1) | exact HB.out)) hb); have hb0 := hb; clear HB hb; have HB := n_; clear n_; (first | have hx_ := keep_cell hb0 hx | have hx_ := keep_cell_d hb0 hx); clear hx; have hx := hx_; clear hx_; (first | have c_ := Aside0.mk (keep_held hb0 HC.out) | have c_ := Aside0.mk (keep_held_d hb0 HC.out)); clear HC hb0; have HC := c_; clear c_))
      clear E hx
      go_wp2
      go_loopw [11] (fun i w' => ∃ m : Nat, i = .int .i64 m ∧ m ≤ 5 ∧ Aside0 (held l G w') ∧ Aside0 (Below w.heap.size w w')) (fun i _ => 5 - (intOf i).toNat)
      case atStart => exact ⟨0, rfl, by omega, HC, HB⟩
      case round =>
        clear HC HB HXX
        obtain ⟨m, rfl, hm5, HC, HB⟩ := hrel
        by_cases hm : m < 5
        · have d3 : decide ((m : Int) < 5) = true := decide_eq_true (by omega)
          have p3 : (0 : Int) ≤ (m : Int) := Int.natCast_nonneg m
          have q3 : (m : Int) < 5 := by omega
          have hx := HC.out n hn
          have hy := HC.out m hm
          obtain ⟨⟨c5_, e51, e52⟩, c6_, e61, e62⟩ := H2.out n m hn hm
          generalize at5 l n = x at hx e51 e52 e61 e62
          generalize at5 l m = y at hy e51 e52 e61 e62
          have E := Aside0.mk (And.intro e51 (And.intro e52 (And.intro e61 e62)))
          clear e51 e52 e61 e62
          go_wp2
          (try simp only [List.append])
          go_region_held3 (fun w' => w'.cell? ⟨G, n, none⟩ = some (.string x) ∧ w'.cell? ⟨G, m, none⟩ = some (.string y)) (first | exact ⟨hx, hy⟩ | assumption | go_keep) (first
            | (go_at_call 46; with_reducible refine (sym_Common.calls k x y c5_ _ E.out.1).mono ?_; rintro e W ⟨rfl, hd⟩; have hb := hd.below; clear hd; have n_ := Aside0.mk (below_step (by repeat (first | (with_reducible first | exact HB.out | apply below_alloc | apply pw_below_drewN | apply below_drew1) | exact HB.out)) hb); have hb0 := hb; clear HB hb; have HB := n_; clear n_; (first | have hy_ := keep_cell hb0 hy | have hy_ := keep_cell_d hb0 hy); clear hy; have hy := hy_; clear hy_; (first | have hx_ := keep_cell hb0 hx | have hx_ := keep_cell_d hb0 hx); clear hx; have hx := hx_; clear hx_; (first | have c_ := Aside0.mk (keep_held hb0 HC.out) | have c_ := Aside0.mk (keep_held_d hb0 HC.out)); clear HC hb0; have HC := c_; clear c_)
            | (go_at_call 57; with_reducible refine (plaitingref1_Common.calls k x y c5_ _ E.out.2.1).mono ?_; rintro e W ⟨rfl, hd⟩; have hb := hd.below; clear hd; have n_ := Aside0.mk (below_step (by repeat (first | (with_reducible first | exact HB.out | apply below_alloc | apply pw_below_drewN | apply below_drew1) | exact HB.out)) hb); have hb0 := hb; clear HB hb; have HB := n_; clear n_; (first | have hy_ := keep_cell hb0 hy | have hy_ := keep_cell_d hb0 hy); clear hy; have hy := hy_; clear hy_; (first | have hx_ := keep_cell hb0 hx | have hx_ := keep_cell_d hb0 hx); clear hx; have hx := hx_; clear hx_; (first | have c_ := Aside0.mk (keep_held hb0 HC.out) | have c_ := Aside0.mk (keep_held_d hb0 HC.out)); clear HC hb0; have HC := c_; clear c_)
            | (go_at_call 47; with_reducible refine (sym_Front.calls x y c6_ _ E.out.2.2.1).mono ?_; rintro e W ⟨rfl, hd⟩; have hb := hd.below; clear hd; have n_ := Aside0.mk (below_step (by repeat (first | (with_reducible first | exact HB.out | apply below_alloc | apply pw_below_drewN | apply below_drew1) | exact HB.out)) hb); have hb0 := hb; clear HB hb; have HB := n_; clear n_; (first | have hy_ := keep_cell hb0 hy | have hy_ := keep_cell_d hb0 hy); clear hy; have hy := hy_; clear hy_; (first | have hx_ := keep_cell hb0 hx | have hx_ := keep_cell_d hb0 hx); clear hx; have hx := hx_; clear hx_; (first | have c_ := Aside0.mk (keep_held hb0 HC.out) | have c_ := Aside0.mk (keep_held_d hb0 HC.out)); clear HC hb0; have HC := c_; clear c_)
            | (go_at_call 58; with_reducible refine (plaitingref1_Front.calls x y c6_ _ E.out.2.2.2).mono ?_; rintro e W ⟨rfl, hd⟩; have hb := hd.below; clear hd; have n_ := Aside0.mk (below_step (by repeat (first | (with_reducible first | exact HB.out | apply below_alloc | apply pw_below_drewN | apply below_drew1) | exact HB.out)) hb); have hb0 := hb; clear HB hb; have HB := n_; clear n_; (first | have hy_ := keep_cell hb0 hy | have hy_ := keep_cell_d hb0 hy); clear hy; have hy := hy_; clear hy_; (first | have hx_ := keep_cell hb0 hx | have hx_ := keep_cell_d hb0 hx); clear hx; have hx := hx_; clear hx_; (first | have c_ := Aside0.mk (keep_held hb0 HC.out) | have c_ := Aside0.mk (keep_held_d hb0 HC.out)); clear HC hb0; have HC := c_; clear c_))
          clear E hx hy
          go_wp2
          go_roundw
          case rel => exact ⟨m + 1, by simp, by omega, HC, HB⟩
          case measure => simp [intOf]; omega
        · obtain rfl : m = 5 := by omega
          go_wp2
          go_roundw
          case rel => exact ⟨n + 1, by simp, by omega, HC, HB⟩
          case measure => simp [intOf]; omega
    · obtain rfl : n = 5 := by omega
      go_wp2
      go_ret
      exact ⟨rfl, HB.out⟩
theorem all_big (k : Nat) (v0 v1 : Value) (a2 : ByteArray) (a3 : Int) (hq : plaitinglaw1_known.f k = some true) (hz : 200 < a2.size) (w : World) :
    Calls Try.prog 21 #[v0, v1, .string a2, .int .i64 a3] w fun e w' => e = .returned (.bool true) ∧ Below w.heap.size w w' := by
  have HB := Aside0.mk (Below.refl w.heap.size w)
  have d0 : decide (200 < (a2.size : Int)) = true := decide_eq_true (by omega)
  have d1 : decide (200 < a2.size) = true := decide_eq_true hz
  go_enter Try.func21, Try.ntmps21
  go_wp2_with (first
    | (go_at_call 37; with_reducible refine (plaitinglaw1_known.calls k true _ hq).mono ?_; rintro e W ⟨rfl, hb⟩; have n_ := Aside0.mk (below_step (by repeat (first | (with_reducible first | exact HB.out | apply below_alloc | apply pw_below_drewN | apply below_drew1) | exact HB.out)) hb); clear HB hb; have HB := n_; clear n_))
  go_ret
  exact ⟨rfl, HB.out⟩
theorem plaitinglaw1_SymAll.calls (k : Nat) (A0 : Option Addr) (c0 : Nat) (l0 : List Int) (A1 : Option Addr) (c1 : Nat) (l1 : List Int) (a2 : ByteArray) (a3 : Int) (r : Bool) (w : World) (hr0 : Kd.C (Kd.int .i64) w A0 l0.length l0) (hc0 : l0.length ≤ c0) (hr1 : Kd.C (Kd.int .i64) w A1 l1.length l1) (hc1 : l1.length ≤ c1) (h : plaitinglaw1_SymAll.f k l0 l1 a2 a3 = some r) :
    Calls Try.prog 21 #[.slice A0 l0.length c0, .slice A1 l1.length c1, .string a2, .int .i64 a3] w fun e w' => e = .returned (.bool r) ∧ Below w.heap.size w w' := by
  unfold plaitinglaw1_SymAll.f at h
  obtain ⟨q, hq, h⟩ := Option.bind_eq_some_iff.1 h
  by_cases c1_ : q = true
  · subst c1_
    rw [if_pos rfl] at h
    by_cases c2_ : 200 < a2.size
    · rw [if_pos c2_] at h
      obtain rfl := Option.some.inj h
      exact all_big k _ _ a2 a3 hq c2_ w
    · rw [if_neg c2_] at h
      obtain ⟨t, ht, h⟩ := Option.bind_eq_some_iff.1 h
      obtain ⟨u, hu, h⟩ := Option.bind_eq_some_iff.1 h
      by_cases c3_ : t.size ≤ 200 ∧ u.size ≤ 200 ∧ all_ok k a3 (five t u a2) = true
      · rw [if_pos c3_] at h
        obtain rfl := Option.some.inj h
        exact all_walk k A0 c0 l0 A1 c1 l1 a2 a3 t u hq (by omega) ht hu c3_.1 c3_.2.1 c3_.2.2 w hr0 hc0 hr1 hc1
      · rw [if_neg c3_] at h
        exact absurd h (by simp)
  · rw [if_neg c1_] at h
    exact absurd h (by simp)

/-- THE ONE PURE STATEMENT of plaitinglaw1_SymAll: yours. -/
def plaitinglaw1_SymAll.Pure : Prop := ∀ (l0 : List Int) (l1 : List Int) (a2 : ByteArray) (a3 : Int), l0.length ≤ maxLen → l0.length * 8 ≤ 140737488351232 → (∀ x ∈ l0, (Lit.int .i64 x).wf = true) → l1.length ≤ maxLen → l1.length * 8 ≤ 140737488351232 → (∀ x ∈ l1, (Lit.int .i64 x).wf = true) → a2.size ≤ 140737488351232 → (Lit.int .i64 a3).wf = true → ∃ k, plaitinglaw1_SymAll.f k l0 l1 a2 a3 = some true
theorem plaitinglaw1_SymAll.walk (P : plaitinglaw1_SymAll.Pure) (a0 : Option Addr) (len0 cap0 : Nat) (z0 : List Int) (a1 : Option Addr) (len1 cap1 : Nat) (z1 : List Int) (a2 : ByteArray) (a3 : Int) (w : World) (w0 : (a0 = none ∧ len0 = 0 ∧ cap0 = 0 ∧ z0 = []) ∨ ∃ x, a0 = some x ∧ len0 ≤ cap0 ∧ cap0 ≤ maxLen ∧ z0.length = cap0 ∧ (∀ i, i < z0.length → w.cell? (x.add i) = some (.int .i64 (z0.getD i 0))) ∧ ∀ n ∈ z0, (Lit.int .i64 n).wf = true) (y0 : len0 * 8 ≤ 140737488351232) (w1 : (a1 = none ∧ len1 = 0 ∧ cap1 = 0 ∧ z1 = []) ∨ ∃ x, a1 = some x ∧ len1 ≤ cap1 ∧ cap1 ≤ maxLen ∧ z1.length = cap1 ∧ (∀ i, i < z1.length → w.cell? (x.add i) = some (.int .i64 (z1.getD i 0))) ∧ ∀ n ∈ z1, (Lit.int .i64 n).wf = true) (y1 : len1 * 8 ≤ 140737488351232) (w2 : a2.size ≤ 140737488351232) (w3 : (Lit.int .i64 a3).wf = true) :
    Calls Try.prog 21 #[.slice a0 len0 cap0, .slice a1 len1 cap1, .string a2, .int .i64 a3] w fun e w' => e = .returned (.bool true) ∧ Below w.heap.size w w' := by
  obtain ⟨l0, rfl, hr0, hm0, hw0, hc0⟩ := ReadsInt.ofRowC w0
  obtain ⟨l1, rfl, hr1, hm1, hw1, hc1⟩ := ReadsInt.ofRowC w1
  obtain ⟨k, h⟩ := P l0 l1 a2 a3 hm0 y0 hw0 hm1 y1 hw1 w2 w3
  refine (plaitinglaw1_SymAll.calls k _ _ l0 _ _ l1 a2 a3 true w (Kd.C_of_reads (d := (0 : Int)) (h1 := fun _ => rfl) hr0) hc0 (Kd.C_of_reads (d := (0 : Int)) (h1 := fun _ => rfl) hr1) hc1 h).mono ?_
  rintro e w' ⟨rfl, hd⟩
  exact ⟨rfl, hd⟩

end Go.Proofs.Ytnggjnhfdjjphaa.PSA
