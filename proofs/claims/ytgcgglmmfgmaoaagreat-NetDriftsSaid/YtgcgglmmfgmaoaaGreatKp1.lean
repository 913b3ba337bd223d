/- A part of the proof, without conditions of its own. -/
import Derived.Test.YtgcgglmmfgmaoaaGreatKp0
import Derived.OpenShut
import Derived.ShutString
import Derived.ChangeOld
import Derived.Below
import Derived.SizedLaws
import Derived.WalkKit
import Derived.ProofKit
import Derived.Lib.SmallJoins
import Derived.Outline
import Derived.Deep.QuietTactic
import Derived.BigQuiet
import Derived.Deep.RegionHeld3
set_option linter.unusedVariables false
set_option linter.unusedSimpArgs false
set_option maxHeartbeats 16000000
set_option maxRecDepth 100000
section
namespace Go.Proofs.YtgcgglmmfgmaoaaGreat.PK
open Go Go.RowKit Go.Proofs.YtgcgglmmfgmaoaaGreatW.PrintWords Go.Proofs.YtgcgglmmfgmaoaaGreatW.PrintLast Go.Proofs.YtgcgglmmfgmaoaaGreatW.PrintMore
attribute [local go_sem] max2_int min2_int max_two min_two
set_option maxRecDepth 100000
set_option maxHeartbeats 4000000
theorem cells6 {W : World} {g T : Nat} {a b c d e f : Value} (h : W.heap[g]? = some (.cells #[a, b, c, d, e, f] T (0, 0))) : W.cell? ⟨g, 0, none⟩ = some a ∧ W.cell? ⟨g, 1, none⟩ = some b ∧ W.cell? ⟨g, 2, none⟩ = some c ∧ W.cell? ⟨g, 3, none⟩ = some d ∧ W.cell? ⟨g, 4, none⟩ = some e ∧ W.cell? ⟨g, 5, none⟩ = some f := ⟨(blk_cell h 0).trans rfl, (blk_cell h 1).trans rfl, (blk_cell h 2).trans rfl, (blk_cell h 3).trans rfl, (blk_cell h 4).trans rfl, (blk_cell h 5).trans rfl⟩
theorem cells2 {W : World} {g T : Nat} {a b : Value} (h : W.heap[g]? = some (.cells #[a, b] T (0, 0))) : W.cell? ⟨g, 0, none⟩ = some a ∧ W.cell? ⟨g, 1, none⟩ = some b := ⟨(blk_cell h 0).trans rfl, (blk_cell h 1).trans rfl⟩
theorem ret_t (a b c d : Int) (h : a = c) (k : b = d) : Ending.returned (.tuple #[.int .i64 a, .int .i64 b]) = Ending.returned (.tuple #[.int .i64 c, .int .i64 d]) := by rw [h, k]
def idxL (a : Int) : List Int → Nat → Int
 | [], _ => -1
 | x :: l, j => if a = x then j else idxL a l (j + 1)
theorem idxL_ge (a : Int) : ∀ (l : List Int) (j : Nat), decide (0 ≤ idxL a l j) = decide (a ∈ l)
 | [], j => by simp [idxL]
 | x :: l, j => by
  unfold idxL
  by_cases h : a = x
  ·rw [if_pos h]; simp [h]
  ·rw [if_neg h, idxL_ge a l (j + 1)]; simp [h]
theorem index_calls (A : Option Addr) (c : Nat) (l : List Int) (a : Int) (hl : l.length ≤ 1000000) (w : World) (hr : Kd.C (Kd.int .i64) w A l.length l) (hc : l.length ≤ c) :
  Calls Tryz.prog 103 #[.slice A l.length c, .int .i64 a] w fun e w' => e = .returned (.int .i64 (idxL a l 0)) ∧ w' = w := by
 have HL := am hl
 have HR := am hr
 obtain ⟨r, hrr⟩ : ∃ r, r = idxL a l 0 := ⟨_, rfl⟩
 rw [← hrr]
 have HE := am hrr
 clear hl hr hc hrr
 go_enter Tryz.func103, Tryz.ntmps103
 go_wp2
 go_loopw [8] (fun v w' => ∃ k : Nat, v = .int .i64 k ∧ k ≤ l.length ∧ Aside0 (r = idxL a (l.drop k) k) ∧ w' = w) (fun v _ => l.length - (intOf v).toNat)
 case atStart => exact ⟨0, rfl, Nat.zero_le _, HE, rfl⟩
 case round =>
  obtain ⟨k, rfl, hk, hE, rfl⟩ := hrel
  by_cases hlt : k < l.length
  ·obtain ⟨ad, hA, hcl⟩ := Kd.at_int HR.out k (by omega) (by omega)
   subst hA
   have hx : rd l (k : Int) = l[k] := by unfold rd; simp [List.getD_eq_getElem?_getD, List.getElem?_eq_getElem hlt]
   have hE2 := hE.out
   rw [List.drop_eq_getElem_cons hlt, ← hx, idxL] at hE2
   simp only [Int.toNat_natCast] at hcl
   generalize rd l (k : Int) = x at *
   have q1 := eq_true (show (k : Int) < (l.length : Int) by omega)
   have hlt9 := am hlt
   have hk12 : k ≤ 1000000 := by have := HL.out; omega
   by_cases h : a = x
   ·have q2 : (a == x) = true := beq_iff_eq.2 h
    rw [if_pos h] at hE2
    have HX := am hE2
    clear hE2 h hx hlt hk hE HE
    go_wp2
    go_ret
    exact ⟨ret_i _ _ HX.out.symm, rfl⟩
   ·have q2 : (a == x) = false := beq_eq_false_iff_ne.2 h
    rw [if_neg h] at hE2
    have HX := am hE2
    clear hE2 h hx hlt hk hE HE
    go_wp2
    go_roundw
    case rel => exact ⟨k + 1, by simp, hlt9.out, HX, trivial⟩
    case measure => have := hlt9.out; simp [intOf]; omega
  ·have q1 := eq_false (show ¬ (k : Int) < (l.length : Int) by omega)
   have hE2 := hE.out
   rw [List.drop_eq_nil_of_le (by omega), idxL] at hE2
   have HX := am hE2
   clear hE2 hlt hk hE HE
   go_wp2
   go_ret
   exact ⟨ret_i _ _ HX.out.symm, rfl⟩
theorem contains_calls (A0 : Option Addr) (c0 : Nat) (l : List Int) (a : Int) (hl : l.length ≤ 1000000) (w : World) (hr : Kd.C (Kd.int .i64) w A0 l.length l) (hc : l.length ≤ c0) :
  Calls Tryz.prog 76 #[.slice A0 l.length c0, .int .i64 a] w fun e w' => e = .returned (.bool (decide (a ∈ l))) ∧ Drawn0 w w' := by
 have KI := am (index_calls A0 c0 l a hl w hr hc)
 rw [← idxL_ge a l 0]
 clear hr hl hc
 go_enter Tryz.func76, Tryz.ntmps76
 go_wp2_with (go_at_call 103; refine KI.out.mono ?_; rintro e W2 ⟨rfl, rfl⟩)
 go_ret
 exact ⟨rfl, Drawn0.refl _⟩
structure Cf where
 n : Int
 pi : Int
 e : Int
 g : Int
 first : Int
 pairs : List Int
structure Cf.OK (c : Cf) : Prop where
 n6 : 6 ≤ c.n
 n12 : c.n ≤ 12
 e0 : 0 ≤ c.e
 e1 : c.e ≤ 100
 g0 : 0 ≤ c.g
 g1 : c.g ≤ 100
 f0 : 0 ≤ c.first
 f1 : c.first ≤ 65535
 p0 : 4 * (c.e + c.g + 1) ≤ c.pi
 p1 : c.pi ≤ 10000
 l3 : c.pairs.length ≤ 3
 pr : ∀ x ∈ c.pairs, -1 ≤ x ∧ x < c.n
abbrev Cf.v (c : Cf) (A : Option Addr) (m : Nat) : Value := .agg #[.int .i64 c.n, .int .i64 c.pi, .int .i64 c.e, .int .i64 c.g, .int .i64 c.first, .slice A c.pairs.length m]
def Cf.C (c : Cf) (w : World) (A : Option Addr) (m : Nat) : Prop := Kd.C (Kd.int .i64) w A c.pairs.length c.pairs ∧ c.pairs.length ≤ m
theorem Cf.C.below {c : Cf} {w W : World} {A : Option Addr} {m : Nat} (h : c.C w A m) (hb : Below w.heap.size w W) : c.C W A m := ⟨Kd.C_below h.1 hb, h.2⟩
def Cf.slots (c : Cf) : Int := c.n + c.pairs.length
def Cf.owners (c : Cf) (s : Int) : List Int :=
 if s < 0 ∨ c.slots ≤ s then [] else if s < c.n then [s] else if rd c.pairs (s - c.n) = -1 then [] else [rd c.pairs (s - c.n), (rd c.pairs (s - c.n) + 1) % c.n]
def Cf.wire (c : Cf) (r : Int) : Int := (c.first + r) % 65536
def Cf.most (c : Cf) : Int := c.n / 2 + 1
theorem Cf.box (c : Cf) (A : Option Addr) (m : Nat) (w : World) (W : World := w.alloc (.cells #[.int .i64 c.n, .int .i64 c.pi, .int .i64 c.e, .int .i64 c.g, .int .i64 c.first, .slice A c.pairs.length m] 24)) (h : W = w.alloc (.cells #[.int .i64 c.n, .int .i64 c.pi, .int .i64 c.e, .int .i64 c.g, .int .i64 c.first, .slice A c.pairs.length m] 24) := by rfl) : W.cell? ⟨w.heap.size, 0, none⟩ = some (.int .i64 c.n) ∧ W.cell? ⟨w.heap.size, 1, none⟩ = some (.int .i64 c.pi) ∧ W.cell? ⟨w.heap.size, 2, none⟩ = some (.int .i64 c.e) ∧ W.cell? ⟨w.heap.size, 3, none⟩ = some (.int .i64 c.g) ∧ W.cell? ⟨w.heap.size, 4, none⟩ = some (.int .i64 c.first) ∧ W.cell? ⟨w.heap.size, 5, none⟩ = some (.slice A c.pairs.length m) := by subst h; exact cells6 (blk_new w _)
theorem most_calls (c : Cf) (hc : c.OK) (A : Option Addr) (m : Nat) (w : World) :
  Calls Tryz.prog 116 #[c.v A m] w fun e w' => e = .returned (.int .i64 c.most) ∧ Below w.heap.size w w' := by
 have h : wrap64 (wrap64 (Int.tdiv c.n 2) + 1) = c.most := by
  have := hc.n6; have := hc.n12
  unfold Cf.most
  rw [Int.tdiv_eq_ediv_of_nonneg (by omega), w64_q (c.n / 2) (by omega) (by omega), w64_q _ (by omega) (by omega)]
 have cc := c.box A m w
 clear hc
 go_enter Tryz.func116, Tryz.ntmps116
 go_wp2
 go_ret
 exact ⟨ret_i _ _ (by first | exact h | rfl), b_al _ _⟩
theorem slots_calls (c : Cf) (hc : c.OK) (A : Option Addr) (m : Nat) (w : World) (hr : c.C w A m) :
  Calls Tryz.prog 41 #[c.v A m] w fun e w' => e = .returned (.int .i64 c.slots) ∧ Below w.heap.size w w' := by
 have h : wrap64 (c.n + c.pairs.length) = c.slots := by
  have := hc.n6; have := hc.n12; have := hc.l3
  exact w64_q _ (by omega) (by omega)
 have cc := c.box A m w
 clear hc hr
 go_enter Tryz.func41, Tryz.ntmps41
 go_wp2
 go_ret
 exact ⟨ret_i _ _ (by first | exact h | rfl), b_al _ _⟩
theorem wire_calls (c : Cf) (hc : c.OK) (r : Int) (h0 : 0 ≤ r) (h1 : r ≤ 1000000) (A : Option Addr) (m : Nat) (w : World) (hr : c.C w A m) :
  Calls Tryz.prog 91 #[c.v A m, .int .i64 r] w fun e w' => e = .returned (.int .i64 (c.wire r)) ∧ Below w.heap.size w w' := by
 have h : Go.bits .and .i64 (wrap64 (c.first + r)) 65535 = c.wire r := by
  have := hc.f0; have := hc.f1
  unfold Cf.wire
  rw [w64_q _ (by omega) (by omega)]
  obtain ⟨a, ha⟩ := Int.eq_ofNat_of_zero_le (show 0 ≤ c.first + r by omega)
  rw [ha, show (65535 : Int) = ((65535 : Nat) : Int) from rfl, bits_and_i64 a 65535 (by omega) (by omega), Nat.and_two_pow_sub_one_eq_mod a 16]
  exact Int.natCast_emod a 65536
 have cc := c.box A m w
 clear hc hr h0 h1
 go_enter Tryz.func91, Tryz.ntmps91
 go_wp2
 go_ret
 exact ⟨ret_i _ _ (by first | exact h | rfl), b_al _ _⟩
theorem on_calls (k th st t : Int) (h0 : 0 ≤ t) (h1 : t ≤ 1000000) (w : World) :
  Calls Tryz.prog 117 #[.agg #[.int .i64 k, .int .i64 th], .int .i64 st, .int .i64 t] w fun e w' => e = .returned (.tuple #[.int .i64 (if k ≤ t + 1 then th else st), .int .i64 (if k ≤ t + 1 then 0 else t + 1)]) ∧ Below w.heap.size w w' := by
 have hw : wrap64 (t + 1) = t + 1 := w64_q _ (by omega) (by omega)
 have cc := cells2 (blk_new w (.cells #[.int .i64 k, .int .i64 th] 193))
 clear h0 h1
 by_cases h : k ≤ t + 1
 ·rw [if_pos h, if_pos h]
  have q := decide_eq_true h
  clear h
  go_enter Tryz.func117, Tryz.ntmps117
  go_wp2
  go_ret2
  exact ⟨ret_t _ _ _ _ rfl rfl, b_al _ _⟩
 ·rw [if_neg h, if_neg h]
  have q := decide_eq_false h
  clear h
  go_enter Tryz.func117, Tryz.ntmps117
  go_wp2
  go_ret2
  exact ⟨ret_t _ _ _ _ rfl (by first | rfl | exact hw), b_al _ _⟩
def nextSt (c : Cf) (node st t heard : Int) : Int × Int :=
 if st = 1 then (if 0 < heard then (3, 0) else if c.n + node ≤ t + 1 then (2, 0) else (1, t + 1))
 else if st = 2 then (3, 0)
 else if st = 3 then (if c.most ≤ heard + 1 then (4, 0) else if 3 ≤ t + 1 then (1, 0) else (3, t + 1))
 else if st = 4 then (if c.most ≤ heard + 1 then (4, 0) else (1, 0))
 else (0, 0)
theorem next_cases (c : Cf) (node st t heard : Int) : (st = 1 ∧ decide (0 < heard) = true ∧ nextSt c node st t heard = (3, 0)) ∨ (st = 1 ∧ decide (0 < heard) = false ∧ nextSt c node st t heard = (if c.n + node ≤ t + 1 then 2 else 1, if c.n + node ≤ t + 1 then 0 else t + 1)) ∨ (st = 2 ∧ True ∧ nextSt c node st t heard = (3, 0)) ∨ (st = 3 ∧ decide (c.most ≤ heard + 1) = true ∧ nextSt c node st t heard = (4, 0))
  ∨ (st = 3 ∧ decide (c.most ≤ heard + 1) = false ∧ nextSt c node st t heard = (if 3 ≤ t + 1 then 1 else 3, if 3 ≤ t + 1 then 0 else t + 1)) ∨ (st = 4 ∧ decide (c.most ≤ heard + 1) = true ∧ nextSt c node st t heard = (4, 0)) ∨ (st = 4 ∧ decide (c.most ≤ heard + 1) = false ∧ nextSt c node st t heard = (1, 0)) ∨ (((st == 1) = false ∧ (st == 2) = false ∧ (st == 3) = false ∧ (st == 4) = false) ∧ True ∧ nextSt c node st t heard = (0, 0)) := by
 unfold nextSt
 by_cases h1 : st = 1
 ·by_cases a : 0 < heard
  ·simp [h1, a]
  ·by_cases b : c.n + node ≤ t + 1 <;> simp [h1, a, b]
 by_cases h2 : st = 2
 ·simp [h2]
 by_cases a : c.most ≤ heard + 1 <;> by_cases b : 3 ≤ t + 1 <;> by_cases h3 : st = 3 <;> by_cases h4 : st = 4 <;> simp [h1, h2, h3, h4, a, b]
theorem next_calls (c : Cf) (hc : c.OK) (node st t heard : Int) (hn0 : 0 ≤ node) (hn1 : node ≤ 12) (ht0 : 0 ≤ t) (ht1 : t ≤ 1000000) (hh0 : 0 ≤ heard) (hh1 : heard ≤ 1000) (A : Option Addr) (m : Nat) (w : World) (hr : c.C w A m) :
  Calls Tryz.prog 82 #[c.v A m, .int .i64 node, .int .i64 st, .int .i64 t, .int .i64 heard] w fun e w' => e = .returned (.tuple #[.int .i64 (nextSt c node st t heard).1, .int .i64 (nextSt c node st t heard).2]) ∧ Below w.heap.size w w' := by
 have KM := am (fun W => most_calls c hc A m W)
 have w1 : wrap64 (heard + 1) = heard + 1 := w64_q _ (by omega) (by omega)
 have w2 : wrap64 (c.n + node) = c.n + node := by have := hc.n6; have := hc.n12; exact w64_q _ (by omega) (by omega)
 have KO := am (fun k th st W => on_calls k th st t ht0 ht1 W)
 have HB := am (b_al w (.cells #[.int .i64 c.n, .int .i64 c.pi, .int .i64 c.e, .int .i64 c.g, .int .i64 c.first, .slice A c.pairs.length m] 24))
 have cb := am (blk_new w (.cells #[.int .i64 c.n, .int .i64 c.pi, .int .i64 c.e, .int .i64 c.g, .int .i64 c.first, .slice A c.pairs.length m] 24))
 have cc := c.box A m w
 clear hn0 hn1 ht0 ht1 hh0 hh1 hr hc
 rcases next_cases c node st t heard with ⟨h, q, e⟩ | ⟨h, q, e⟩ | ⟨h, q, e⟩ | ⟨h, q, e⟩ | ⟨h, q, e⟩ | ⟨h, q, e⟩ | ⟨h, q, e⟩ | ⟨h, q, e⟩
 all_goals
  rw [e]
  clear e
  first | subst h | obtain ⟨x1, x2, x3, x4⟩ := h
  go_enter Tryz.func82, Tryz.ntmps82
  go_wp2_with (first
   | (go_at_call 116; refine (KM.out _).mono ?_; rintro e W ⟨rfl, hb⟩; have H2 := am (b_tr HB.out hb); have c2 := cells6 (blk_below cb.out hb); clear hb cc)
   | (go_at_call 117; refine (KO.out _ _ _ _).mono ?_; rintro e W3 ⟨rfl, hb⟩; have H3 := am (b_tr H2.out hb); clear hb))
  all_goals (go_ret2; exact ⟨rfl, by first | exact H3.out | exact H2.out⟩)
theorem R_ints {W : World} {b base : Nat} {l : List Int} (h : W.heap[b]? = some (.cells (l.map fun x => Value.int .i64 x).toArray 3 (0, 0))) (hb : base ≤ b) (hl : l.length ≤ 1000) : Kd.R (Kd.int .i64) 3 W base (fun _ => True) (.slice (some ⟨b, 0, none⟩) l.length l.length) l :=
 Kd.R_of_own ⟨by simp [encs], .inr ⟨b, l.length, _, rfl, hb, h, Nat.le_refl _, by unfold maxLen; omega, by simp, by simp only [Nat.mul_one]; rw [List.take_of_length_le (by simp)]; rfl⟩⟩ (fun _ _ => trivial)
theorem rd_mem {l : List Int} {i : Int} (h0 : 0 ≤ i) (h1 : i < l.length) : rd l i ∈ l := by
 unfold rd
 rw [List.getD_eq_getElem?_getD, List.getElem?_eq_getElem (by omega)]
 exact List.getElem_mem _
theorem C_at {w : World} {A : Option Addr} {xs : List Int} (h : Kd.C (Kd.int .i64) w A xs.length xs) (i : Int) (h0 : 0 ≤ i) (h1 : i < xs.length) : ∃ ad, A = some ad ∧ w.cell? (ad.add i.toNat) = some (.int .i64 (rd xs i)) :=
 Kd.at_int h i h0 h1
theorem owners_calls (c : Cf) (hc : c.OK) (s : Int) (h0 : -1000000 ≤ s) (h1 : s ≤ 1000000) (A : Option Addr) (m : Nat) (w : World) (hr : c.C w A m) :
  Calls Tryz.prog 67 #[c.v A m, .int .i64 s] w fun e w' => ∃ v : Value, e = .returned v ∧ Kd.R (Kd.int .i64) 3 w' w.heap.size (fun _ => True) v (c.owners s) ∧ Below w.heap.size w w' := by
 have h6 := hc.n6; have h12 := hc.n12; have h3 := hc.l3
 have hw : wrap64 (s - c.n) = s - c.n := w64_q _ (by omega) (by omega)
 have HB := am (b_al w (.cells #[.int .i64 c.n, .int .i64 c.pi, .int .i64 c.e, .int .i64 c.g, .int .i64 c.first, .slice A c.pairs.length m] 24))
 have cc := c.box A m w
 have HR := am hr.1
 by_cases a : s < 0
 ·have q := decide_eq_true a
  rw [show c.owners s = [] by unfold Cf.owners; rw [if_pos (.inl a)]]
  clear a h0 h1 h6 h12 h3 hr hc
  go_enter Tryz.func67, Tryz.ntmps67
  go_wp2
  go_ret
  exact ⟨_, rfl, Kd.R_nil _ _ _ _ _, HB.out⟩
 have q := decide_eq_false a
 by_cases b : c.slots ≤ s
 ·rw [show c.owners s = [] by unfold Cf.owners; rw [if_pos (.inr b)]]
  have q2 : decide ((c.pairs.length : Int) ≤ s - c.n) = true := decide_eq_true (by unfold Cf.slots at b; omega)
  clear a b h0 h1 h6 h12 h3 hr hc
  go_enter Tryz.func67, Tryz.ntmps67
  go_wp2
  go_ret
  exact ⟨_, rfl, Kd.R_nil _ _ _ _ _, HB.out⟩
 have q2 : decide ((c.pairs.length : Int) ≤ s - c.n) = false := decide_eq_false (by unfold Cf.slots at b; omega)
 by_cases d : s < c.n
 ·rw [show c.owners s = [s] by unfold Cf.owners; rw [if_neg (fun e => e.elim a b), if_pos d]]
  have q3 : decide (s - c.n < 0) = true := decide_eq_true (by omega)
  clear a b d h0 h1 h6 h12 h3 hr hc
  go_enter Tryz.func67, Tryz.ntmps67
  go_wp2
  go_ret
  exact ⟨_, rfl, R_ints (l := [s]) (by have h := blk_new (w.alloc (.cells #[.int .i64 c.n, .int .i64 c.pi, .int .i64 c.e, .int .i64 c.g, .int .i64 c.first, .slice A c.pairs.length m] 24)) (.cells #[.int .i64 s] 3); simpa using h) (Nat.le_succ _) (by simp), b_tr HB.out (b_al _ _)⟩
 have q3 : decide (s - c.n < 0) = false := decide_eq_false (by omega)
 have hlt : s - c.n < c.pairs.length := by unfold Cf.slots at b; omega
 obtain ⟨ad, hA, hcl⟩ := C_at (Kd.C_below hr.1 HB.out) (s - c.n) (by omega) hlt
 subst hA
 have hm := hc.pr _ (rd_mem (l := c.pairs) (i := s - c.n) (by omega) hlt)
 obtain ⟨k, hk⟩ := Int.eq_ofNat_of_zero_le (show 0 ≤ s - c.n by omega)
 replace hw := hw.trans hk
 rw [hk] at hcl q2 q3 hlt hm
 simp only [Int.toNat_natCast] at hcl
 have z0 := eq_true hlt
 have z1 : (k < c.pairs.length) = True := eq_true (by omega)
 have z2 : (c.pairs.length ≤ k) = False := eq_false (by omega)
 have hx : c.owners s = if rd c.pairs k = -1 then [] else [rd c.pairs k, (rd c.pairs k + 1) % c.n] := by
  unfold Cf.owners
  rw [if_neg (fun e => e.elim a b), if_neg d, hk]
 rw [hx]
 generalize rd c.pairs k = x at *
 by_cases e : x = -1
 ·rw [if_pos e]
  have q4 : (x == -1) = true := beq_iff_eq.2 e
  clear a b d h0 h1 h6 h12 h3 hr hc e hm hlt hx hk
  go_enter Tryz.func67, Tryz.ntmps67
  go_wp2
  go_ret
  exact ⟨_, rfl, Kd.R_nil _ _ _ _ _, HB.out⟩
 have q4 : (x == -1) = false := beq_eq_false_iff_ne.2 e
 have q5 : decide (c.n ≤ 0) = false := decide_eq_false (by omega)
 have q6 : (c.n == 0) = false := beq_eq_false_iff_ne.2 (by omega)
 have q7 : (c.n != 0) = true := bne_iff_ne.2 (by omega)
 have q8 : ¬ c.n = 0 := by omega
 have w2 : wrap64 (x + 1) = x + 1 := w64_q _ (by omega) (by omega)
 have w3 : Int.tmod (x + 1) c.n = (x + 1) % c.n := Int.tmod_eq_emod_of_nonneg (by omega)
 rw [if_neg e]
 clear a b d h0 h1 h6 h12 h3 hr hc e hm hlt hx hk
 go_enter Tryz.func67, Tryz.ntmps67
 go_upto_region 2 with (fail)
 generalize w.alloc (.cells #[.int .i64 c.n, .int .i64 c.pi, .int .i64 c.e, .int .i64 c.g, .int .i64 c.first, .slice (some ad) c.pairs.length m] 24) = W0 at *
 have hs := HB.out.size
 refine startB (n := 16) (F := fun _ => False) (ds := []) (by kernel_rfl) rfl (fun hHeld => ?_)
 refine plan_ [.p 0 10, .t 1 11, .p 2 12, .p 3 13, .t 4 14, .p 5 15, .t 6 16, .p 7 17, .p 8 18, .t 9 19, .p 10 20, .p 11 21, .t 12 22, .p 13 23] ?_
 repeat (first | refine jP ?_ | refine jW hHeld ?_ | refine jG ?_)
 refine planE ?_
 refine jO 14 (some 24) (fun K hK => ?_)
 refine value_ (v := .slice (some ⟨W0.drew.heap.size, 0, none⟩) 2 2) (w1 := W0.drew.alloc (.cells #[.int .i64 x, .int .i64 ((x + 1) % c.n)] 3)) (by rfl) rfl (by go_simp; try rfl) ?_
 refine hK.out _ _ ((Kp.of (b_tr (below_drew (Below.refl _ _)) (b_al _ _)))) (fun hHeld => ?_)
 clear hK K
 refine jM 24 ?_
 refine plan_ [.p 15 4] ?_
 repeat (first | refine jP ?_ | refine jW hHeld ?_ | refine jG ?_)
 refine planE ?_
 refine done_ (by kernel_rfl) ?_
 go_wp2
 go_ret
 exact ⟨_, rfl, R_ints (l := [x, (x + 1) % c.n]) (blk_new _ _) hs (by simp), b_tr HB.out (b_tr (below_drew (Below.refl _ _)) (b_al _ _))⟩
def Cf.voters (c : Cf) (s : Int) : List Int := ((List.range c.n.toNat).map (fun i : Nat => (i : Int))).filter (fun i => !decide (i ∈ c.owners s))
theorem owners_len (c : Cf) (s : Int) : (c.owners s).length ≤ 2 := by
 unfold Cf.owners
 split
 ·simp
 ·split
  ·simp
  ·split <;> simp
theorem voters_calls (c : Cf) (hc : c.OK) (s : Int) (h0 : -1000000 ≤ s) (h1 : s ≤ 1000000) (A : Option Addr) (m : Nat) (w : World) (hr : c.C w A m) :
  Calls Tryz.prog 106 #[c.v A m, .int .i64 s] w fun e w' => ∃ v : Value, e = .returned v ∧ Kd.R (Kd.int .i64) 3 w' w.heap.size (fun _ => True) v (c.voters s) ∧ Below w.heap.size w w' := by
 have cc := c.box A m w
 have cb := am (blk_new w (.cells #[.int .i64 c.n, .int .i64 c.pi, .int .i64 c.e, .int .i64 c.g, .int .i64 c.first, .slice A c.pairs.length m] 24))
 have HB := am (b_al w (.cells #[.int .i64 c.n, .int .i64 c.pi, .int .i64 c.e, .int .i64 c.g, .int .i64 c.first, .slice A c.pairs.length m] 24))
 have KO := am (fun W hb => owners_calls c hc s h0 h1 A m W (hr.below hb))
 obtain ⟨N, hN⟩ := Int.eq_ofNat_of_zero_le (show 0 ≤ c.n by have := hc.n6; omega)
 have hN12 := am (show N ≤ 12 by have := hc.n12; omega)
 have ho := owners_len c s
 have hv : c.voters s = ((List.range N).map (fun i : Nat => (i : Int))).filter (fun i => !decide (i ∈ c.owners s)) := by unfold Cf.voters; rw [hN]; rfl
 rw [hv]
 have hmn : min c.n 12 = c.n := by have := hc.n12; omega
 generalize c.owners s = ow at *
 have HO := am ho
 have HN := am hN
 clear hv hc hr h0 h1 ho hN
 go_enter Tryz.func106, Tryz.ntmps106
 go_upto_region 3 with (go_at_call 67; refine (KO.out _ HB.out).mono ?_; rintro e W ⟨v, rfl, hR, hb⟩; obtain ⟨A5, c5, rfl⟩ := Kd.R_slice hR; have HR := am (Kd.R_reads' hR).2; have H2 := am (b_tr HB.out hb); have c2 := cells6 (blk_below cb.out hb); clear hb hR cc)
 go_wp2
 go_loopw [6, 14] (fun vo v w' => ∃ k : Nat, v = .int .i64 k ∧ k ≤ N ∧ Aside0 (Kd.R (Kd.int .i64) 3 w' W.heap.size (fun _ => True) vo (((List.range k).map (fun i : Nat => (i : Int))).filter (fun i => !decide (i ∈ ow)))) ∧ Aside0 (Below W.heap.size W w')) (fun _ v _ => N - (intOf v).toNat)
 case atStart => exact ⟨0, rfl, Nat.zero_le _, ⟨Kd.R_nil _ _ _ _ _⟩, ⟨Below.refl _ _⟩⟩
 case round =>
  obtain ⟨k, rfl, hk, hR0, hB0⟩ := hrel
  by_cases hlt : k < N
  ·have q1 := decide_eq_true (show (k : Int) < c.n by have := HN.out; omega)
   have hst : ∀ b, decide ((k : Int) ∈ ow) = b → ((List.range (k + 1)).map (fun i : Nat => (i : Int))).filter (fun i => !decide (i ∈ ow)) = ((List.range k).map (fun i : Nat => (i : Int))).filter (fun i => !decide (i ∈ ow)) ++ (if b = true then [] else [(k : Int)]) := fun b hb => by
    rw [List.range_succ, List.map_append, List.filter_append]
    simp only [List.map_cons, List.map_nil, List.filter_cons, List.filter_nil, hb]
    cases b <;> rfl
   have hol : (((List.range k).map (fun i : Nat => (i : Int))).filter (fun i => !decide (i ∈ ow))).length ≤ 12 := Nat.le_trans (List.length_filter_le _ _) (by have := hN12.out; simp; omega)
   have hlt9 := am hlt
   have KC := am (contains_calls A5 c5 ow (k : Int) (by have := HO.out; omega) _ (Kd.C_below HR.out.2 hB0.out) HR.out.1)
   obtain ⟨b, hb⟩ : ∃ b, decide ((k : Int) ∈ ow) = b := ⟨_, rfl⟩
   have HST := am (hst b hb)
   rw [hb] at KC
   have HOL := am hol
   have HRO := hR0
   generalize ((List.range k).map (fun i : Nat => (i : Int))).filter (fun i => !decide (i ∈ ow)) = out at *
   have hk12 : k ≤ 12 := by have := hN12.out; omega
   clear hst hb hol hk hlt
   obtain ⟨A3, c3, rfl⟩ := Kd.R_slice HRO.out
   cases b
   ·go_wp2_with (first
     | (go_at_call 76; refine KC.out.mono ?_; rintro e W2 ⟨rfl, hd⟩; have B2 := am (b_tr hB0.out hd.below); have R2 := am (Kd.R_below HRO.out hd.below); clear hd)
     | ((with_reducible refine gate_builtin (b := .append) (xs := #[.tmp 21, .tmp 23]) rfl ?_); at_builtin; refine Kd.R_append (Kd.int .i64) (w0 := W) W.heap.size rfl (.tmp 21) (.tmp 23) 22 3 (.int .i64 0) 8 rfl Tryz.underlying22 info_int_ rfl (by decide) (by omega) _ out (k : Int) [.int .i64 k] (fun _ => True) (fun _ => False) rfl rfl rfl (fun _ h => h.elim) (fun _ _ => trivial) R2.out B2.out B2.out.size (by have := HOL.out; omega) ?_; intro v4 W6 ho hb hg_ hat_; have R6 := am ho; have B6 := am hb; clear ho hb hg_ hat_; obtain ⟨A6, c6, rfl⟩ := Kd.R_slice R6.out))
    go_roundw
    case rel => exact ⟨k + 1, by simp, hlt9.out, ⟨by rw [HST.out]; have h := R6.out; simpa using h⟩, B6⟩
    case measure => have := hlt9.out; simp [intOf]; omega
   ·go_wp2_with (go_at_call 76; refine KC.out.mono ?_; rintro e W2 ⟨rfl, hd⟩; have B2 := am (b_tr hB0.out hd.below); have R2 := am (Kd.R_below HRO.out hd.below); clear hd)
    go_roundw
    case rel => exact ⟨k + 1, by simp, hlt9.out, ⟨by rw [HST.out]; simpa using R2.out⟩, B2⟩
    case measure => have := hlt9.out; simp [intOf]; omega
  ·obtain rfl : k = N := by omega
   have q1 := decide_eq_false (show ¬ (k : Int) < c.n by have := HN.out; omega)
   obtain ⟨A3, c3, hv⟩ := Kd.R_slice hR0.out
   clear hlt hk
   go_wp2
   go_ret
   exact ⟨_, rfl, Kd.R_lower hR0.out H2.out.size, b_tr H2.out hB0.out⟩
def pickI (l : List Int) (k most : Int) : Int := if l.length = 0 then 0 else min (max (rd l (k % l.length)) (-most)) most
theorem pick_calls (l : List Int) (hl : l.length ≤ 1000000) (k most : Int) (hm0 : 0 ≤ most) (hm : most ≤ 1000000) (A : Option Addr) (m : Nat) (w : World) (hr : Kd.C (Kd.int .i64) w A l.length l) (hc : l.length ≤ m) :
  Calls Tryz.prog 65 #[.slice A l.length m, .int .i64 k, .int .i64 most] w fun e w' => e = .returned (.int .i64 (pickI l k most)) ∧ Below w.heap.size w w' := by
 by_cases h : l.length = 0
 ·have q0 : ((l.length : Int) == 0) = true := beq_iff_eq.2 (by omega)
  rw [show pickI l k most = 0 by unfold pickI; rw [if_pos h]]
  clear hl hm0 hm hr hc h
  go_enter Tryz.func65, Tryz.ntmps65
  go_wp2
  go_ret
  exact ⟨rfl, Below.refl _ _⟩
 ·have q0 : ((l.length : Int) == 0) = false := beq_eq_false_iff_ne.2 (by omega)
  have hp : (0 : Int) < l.length := by omega
  have h1 := tmod_range_q k l.length hp
  have h2 := Int.emod_nonneg k (show (l.length : Int) ≠ 0 by omega)
  have h3 := Int.emod_lt_of_pos k hp
  have w1 : wrap64 (Int.tmod k l.length + l.length) = Int.tmod k l.length + l.length := w64_q _ (by omega) (by omega)
  have w2 := tmod_tmod_add k l.length hp
  have w3 : wrap64 (-most) = -most := w64_q _ (by omega) (by omega)
  obtain ⟨j, hj⟩ := Int.eq_ofNat_of_zero_le h2
  obtain ⟨ad, hA, hcl⟩ := Kd.at_int hr (k % l.length) h2 h3
  have hx : pickI l k most = min (max (rd l (k % l.length)) (-most)) most := by unfold pickI; rw [if_neg h]
  rw [hx]
  subst hA
  rw [hj] at hcl w2 h3 ⊢
  simp only [Int.toNat_natCast] at hcl
  generalize rd l (j : Int) = x at *
  have q1 := eq_true h3
  have q2 : (j < l.length) = True := eq_true (by omega)
  have q3 : ((l.length : Int) != 0) = true := bne_iff_ne.2 (by omega)
  have q4 : ¬ (l.length : Int) = 0 := by omega
  clear hl hm0 hm hr hc h hx h1 h2 hj hp h3
  go_enter Tryz.func65, Tryz.ntmps65
  go_wp2
  all_goals (go_ret; exact ⟨ret_i _ _ (by first | rfl | omega | (split at * <;> omega)), Below.refl _ _⟩)
theorem value_raw (a b : Int) (w : World) : Calls Tryz.prog 166 #[.agg #[.int .i64 a, .int .i64 b]] w fun e w' => e = .returned (.bool ((a == 1 && b == 0) || (a == 2 && (decide (0 ≤ b) && decide (b ≤ 255))))) ∧ Below w.heap.size w w' := by
 have cc := cells2 (blk_new w (.cells #[.int .i64 a, .int .i64 b] 55))
 have hu := Tryz.underlying55
 cases h1 : (a == 1) <;> cases h2 : (b == 0) <;> cases h3 : (a == 2) <;> cases h4 : decide (0 ≤ b) <;> cases h5 : decide (b ≤ 255)
 all_goals
  go_enter Tryz.func166, Tryz.ntmps166
  go_wp2
  go_ret
  exact ⟨rfl, b_al _ _⟩
theorem empty_raw (a b : Int) (w : World) : Calls Tryz.prog 165 #[.agg #[.int .i64 a, .int .i64 b]] w fun e w' => e = .returned (.bool (a == 0 && b == 0)) ∧ Below w.heap.size w w' := by
 have cc := cells2 (blk_new w (.cells #[.int .i64 a, .int .i64 b] 55))
 have hu := Tryz.underlying55
 cases h1 : (a == 0) <;> cases h2 : (b == 0)
 all_goals
  go_enter Tryz.func165, Tryz.ntmps165
  go_wp2
  go_ret
  exact ⟨rfl, b_al _ _⟩
theorem echoes_raw (c : Cf) (hc : c.OK) (k s : Int) (A : Option Addr) (m : Nat) (w : World) (hr : c.C w A m) :
  Calls Tryz.prog 155 #[c.v A m, .int .i64 k, .int .i64 s] w fun e w' => e = .returned (.int .i64 (if k = 3 ∧ s < c.n then c.slots else 0)) ∧ Below w.heap.size w w' := by
 have cc := c.box A m w
 have HB := am (b_al w (.cells #[.int .i64 c.n, .int .i64 c.pi, .int .i64 c.e, .int .i64 c.g, .int .i64 c.first, .slice A c.pairs.length m] 24))
 have KS := am (fun W hb => slots_calls c hc A m W (hr.below hb))
 by_cases h1 : k = 3
 ·by_cases h2 : s < c.n
  ·rw [if_pos ⟨h1, h2⟩]
   have q1 := decide_eq_true h2
   subst h1
   clear h2 hr hc
   go_enter Tryz.func155, Tryz.ntmps155
   go_wp2_with (go_at_call 41; refine (KS.out _ (by first | exact HB.out | exact below_drew HB.out)).mono ?_; rintro e W ⟨rfl, hb⟩; have H2 := am (b_tr (by first | exact HB.out | exact below_drew HB.out) hb); clear hb)
   go_ret
   exact ⟨rfl, H2.out⟩
  ·rw [if_neg (fun h => h2 h.2)]
   have q1 := decide_eq_false h2
   subst h1
   clear h2 hr hc
   go_enter Tryz.func155, Tryz.ntmps155
   go_wp2
   go_ret
   exact ⟨rfl, HB.out⟩
 ·rw [if_neg (fun h => h1 h.1)]
  have q1 : (k == 3) = false := beq_eq_false_iff_ne.2 h1
  clear h1 hr hc
  go_enter Tryz.func155, Tryz.ntmps155
  go_wp2
  go_ret
  exact ⟨rfl, HB.out⟩
end Go.Proofs.YtgcgglmmfgmaoaaGreat.PK
end
section
namespace Go.Proofs.YtgcgglmmfgmaoaaGreat.PK
open Go Go.RowKit Go.Proofs.YtgcgglmmfgmaoaaGreatW.PrintWords Go.Proofs.YtgcgglmmfgmaoaaGreatW.PrintLast Go.Proofs.YtgcgglmmfgmaoaaGreatW.PrintMore
attribute [local go_sem] max2_int min2_int max_two min_two
section
open Go.ChangeShapes Go.WideShapes Go.ChangeAt
set_option maxRecDepth 100000
theorem own : ownKnob Tryz.prog.godebug = none := by kernel_rfl
theorem laidOut : laidOutB Tryz.prog = true := by kernel_rfl
variable {H : Type} {enc : TypeId × Value → H} {W : World}
theorem arg_ints {fuel : Nat} {cs : List Value} {x : DataW H × List MemPlace} (h : DataW.trod enc Tryz.prog W 0 (fun _ => true) true fuel 22 cs = some x) :
  ∃ (A : Option Addr) (m : Nat) (l : List Int), cs = [.slice A l.length m] ∧ Kd.C (Kd.int .i64) W A l.length l ∧ l.length ≤ m := by
 have key : ∀ {a : Option Addr} {len cap : Nat} {zs : List Int}, ((a = none ∧ len = 0 ∧ cap = 0 ∧ zs = []) ∨ ∃ x, a = some x ∧ len ≤ cap ∧ cap ≤ maxLen ∧ zs.length = cap ∧ (∀ i, i < zs.length → W.cell? (x.add i) = some (.int .i64 (zs.getD i 0))) ∧ ∀ n ∈ zs, (Lit.int .i64 n).wf = true) →
   ∃ (A : Option Addr) (m : Nat) (l : List Int), [Value.slice a len cap] = [.slice A l.length m] ∧ Kd.C (Kd.int .i64) W A l.length l ∧ l.length ≤ m := fun h => by
  obtain ⟨l, rfl, hr, _, _, hc⟩ := ReadsInt.ofRowC h
  exact ⟨_, _, l, rfl, Kd.C_of_reads (d := (0 : Int)) (h1 := fun _ => rfl) hr, hc⟩
 rcases open_ints Tryz.underlying22 Tryz.underlying3 (by kernel_rfl) h with ⟨rfl, _⟩ | ⟨a, l, c, zs, rfl, _, hl, hm, hz, _, hcell, hwz⟩
 ·exact key (.inl ⟨rfl, rfl, rfl, rfl⟩)
 ·exact key (.inr ⟨_, rfl, hl, hm, by simpa using hz, hcell, hwz⟩)
theorem arg_row {base : Nat} {v : Value} {d : DataW H} {p : List MemPlace} (hv : Value.okWide Tryz.prog W .any base 22 v) (h : DataW.Trod enc Tryz.prog W 0 (fun _ => true) true 22 v d p) :
  ∃ (A : Option Addr) (m : Nat) (l : List Int), v = .slice A l.length m ∧ Kd.C (Kd.int .i64) W A l.length l ∧ l.length ≤ m := by
 obtain ⟨a, len, cap, rfl⟩ := okWide_slice Tryz.underlying22 hv
 obtain ⟨fuel, hf⟩ := h
 obtain ⟨A, m, l, e, hr, hc⟩ := arg_ints hf
 have e' : [Value.slice a len cap] = [.slice A l.length m] := e
 exact ⟨A, m, l, List.head_eq_of_cons_eq e', hr, hc⟩
theorem arg_conf {base : Nat} {v : Value} {d : DataW H} {p : List MemPlace} (hv : Value.okWide Tryz.prog W .any base 24 v) (h : DataW.Trod enc Tryz.prog W 0 (fun _ => true) true 24 v d p) :
  ∃ (n pi e g f : Int) (A : Option Addr) (m : Nat) (l : List Int), v = .agg #[.int .i64 n, .int .i64 pi, .int .i64 e, .int .i64 g, .int .i64 f, .slice A l.length m] ∧ Kd.C (Kd.int .i64) W A l.length l ∧ l.length ≤ m := by
 obtain ⟨cs, rfl, hs⟩ := okWide_struct Tryz.underlying24 hv
 obtain ⟨fuel, hf⟩ := h
 obtain ⟨xs, n, _, _, _, hlen, hx⟩ := DataW.trod_struct Tryz.underlying24 hf
 rw [show Tryz.prog.cellsOf 24 = 6 by kernel_rfl] at hs
 have c1 : Tryz.prog.cellsOf 3 = 1 := by kernel_rfl
 have c2 : Tryz.prog.cellsOf 22 = 1 := by kernel_rfl
 have hl6 : xs.length = 6 := hlen
 have g : ∀ i, i < 6 → ∃ y, xs[i]? = some y := fun i hi => ⟨_, List.getElem?_eq_getElem (by omega)⟩
 obtain ⟨l, rfl⟩ : ∃ l : List Value, cs = l.toArray := ⟨cs.toList, by simp⟩
 match l, hs with
 | [c0, c1', c2', c3, c4, c5], _ =>
  obtain ⟨y0, g0⟩ := g 0 (by decide)
  obtain ⟨y1, g1⟩ := g 1 (by decide)
  obtain ⟨y2, g2⟩ := g 2 (by decide)
  obtain ⟨y3, g3⟩ := g 3 (by decide)
  obtain ⟨y4, g4⟩ := g 4 (by decide)
  obtain ⟨y5, g5⟩ := g 5 (by decide)
  have h0 : DataW.trod enc Tryz.prog W 0 (fun _ => true) true n 3 (([c0, c1', c2', c3, c4, c5].drop 0).take (Tryz.prog.cellsOf 3)) = xs[0]? := hx 0 _ rfl
  rw [c1] at h0
  replace h0 : DataW.trod enc Tryz.prog W 0 (fun _ => true) true n 3 [c0] = some y0 := h0.trans g0
  have h1 : DataW.trod enc Tryz.prog W 0 (fun _ => true) true n 3 (([c0, c1', c2', c3, c4, c5].drop 1).take (Tryz.prog.cellsOf 3)) = xs[1]? := hx 1 _ rfl
  rw [c1] at h1
  replace h1 : DataW.trod enc Tryz.prog W 0 (fun _ => true) true n 3 [c1'] = some y1 := h1.trans g1
  have h2 : DataW.trod enc Tryz.prog W 0 (fun _ => true) true n 3 (([c0, c1', c2', c3, c4, c5].drop 2).take (Tryz.prog.cellsOf 3)) = xs[2]? := hx 2 _ rfl
  rw [c1] at h2
  replace h2 : DataW.trod enc Tryz.prog W 0 (fun _ => true) true n 3 [c2'] = some y2 := h2.trans g2
  have h3 : DataW.trod enc Tryz.prog W 0 (fun _ => true) true n 3 (([c0, c1', c2', c3, c4, c5].drop 3).take (Tryz.prog.cellsOf 3)) = xs[3]? := hx 3 _ rfl
  rw [c1] at h3
  replace h3 : DataW.trod enc Tryz.prog W 0 (fun _ => true) true n 3 [c3] = some y3 := h3.trans g3
  have h4 : DataW.trod enc Tryz.prog W 0 (fun _ => true) true n 3 (([c0, c1', c2', c3, c4, c5].drop 4).take (Tryz.prog.cellsOf 3)) = xs[4]? := hx 4 _ rfl
  rw [c1] at h4
  replace h4 : DataW.trod enc Tryz.prog W 0 (fun _ => true) true n 3 [c4] = some y4 := h4.trans g4
  have h5 : DataW.trod enc Tryz.prog W 0 (fun _ => true) true n 22 (([c0, c1', c2', c3, c4, c5].drop 5).take (Tryz.prog.cellsOf 22)) = xs[5]? := hx 5 _ rfl
  rw [c2] at h5
  replace h5 : DataW.trod enc Tryz.prog W 0 (fun _ => true) true n 22 [c5] = some y5 := h5.trans g5
  obtain ⟨n0, e0, _⟩ := DataW.trod_int Tryz.underlying3 h0
  obtain ⟨n1, e1, _⟩ := DataW.trod_int Tryz.underlying3 h1
  obtain ⟨n2, e2, _⟩ := DataW.trod_int Tryz.underlying3 h2
  obtain ⟨n3, e3, _⟩ := DataW.trod_int Tryz.underlying3 h3
  obtain ⟨n4, e4, _⟩ := DataW.trod_int Tryz.underlying3 h4
  obtain ⟨A, m, l, e5, hr, hc⟩ := arg_ints h5
  simp only [List.cons.injEq, and_true] at e0 e1 e2 e3 e4 e5
  subst e0 e1 e2 e3 e4 e5
  exact ⟨n0, n1, n2, n3, n4, A, m, l, rfl, hr, hc⟩
end
end Go.Proofs.YtgcgglmmfgmaoaaGreat.PK
end
section
namespace Go.Proofs.YtgcgglmmfgmaoaaGreat.PK
open Go Go.RowKit Go.Proofs.YtgcgglmmfgmaoaaGreatW.PrintWords Go.Proofs.YtgcgglmmfgmaoaaGreatW.PrintLast Go.Proofs.YtgcgglmmfgmaoaaGreatW.PrintMore
attribute [local go_sem] max2_int min2_int max_two min_two
theorem made_flat (z : List Value) (hz : 0 < z.length) (n : Nat) : madeCells z.toArray (n * z.length) = ((List.replicate n z).flatten).toArray := by
 apply Array.ext'
 unfold madeCells
 rw [List.toList_toArray]
 apply List.ext_getElem
 ·simp [List.length_flatten, Nat.mul_comm]
 ·intro i h1 h2
  have hl : i < n * z.length := by simpa using h1
  have hq : i / z.length < n := Nat.div_lt_of_lt_mul (by rw [Nat.mul_comm]; exact hl)
  have e : ∀ (n i : Nat), i < n * z.length → ((List.replicate n z).flatten)[i]? = z[i % z.length]? := by
   intro n
   induction n with
   | zero => intro i h; omega
   | succ n ih =>
    intro i h
    rw [List.replicate_succ, List.flatten_cons]
    by_cases hi : i < z.length
    ·rw [List.getElem?_append_left hi, Nat.mod_eq_of_lt hi]
    ·rw [List.getElem?_append_right (by omega), ih _ (by rw [Nat.succ_mul] at h; omega)]
     congr 1
     rw [Nat.mod_eq_sub_mod (by omega : i ≥ z.length)]
  have h3 := e n i hl
  have hm : i % z.length < z.length := Nat.mod_lt _ hz
  rw [List.getElem?_eq_getElem h2, List.getElem?_eq_getElem hm] at h3
  have h4 := Option.some.inj h3
  rw [h4]
  simp [hm]
theorem make_run {P : Program} (t e : TypeId) (zc : List Value) (z : Value) (bytes : Nat) (ht : P.underlying t = some (.slice e)) (hinfo : (P.info? e).map (fun i => (i.zero, i.size, i.bytes)) = some (some z, zc.length, bytes)) (hz : z.cells = zc.toArray) (hpos : 0 < zc.length) (m : Int) (n : Nat) (hm : m = n) (hn : n * bytes ≤ 281474976710656) (hb0 : 0 < bytes) (W : World) :
  (Instr.makeSlice t (.int .i64 m) (.int .i64 m)).run P W = .ok (.slice (some ⟨W.heap.size, 0, none⟩) n n) (W.alloc (.cells ((List.replicate n zc).flatten.toArray) e)) := by
 subst hm
 obtain ⟨i0, hi, hzz⟩ := Option.map_eq_some_iff.1 hinfo
 simp only [Prod.mk.injEq] at hzz
 obtain ⟨hz0, hz1, hz2⟩ := hzz
 have hnb : n ≤ 281474976710656 := Nat.le_trans (Nat.le_mul_of_pos_right _ hb0) hn
 have hr := run_make (P := P) W t e i0 z ht hi hz0 .i64 .i64 (n : Int) (n : Int) (by omega) (by omega)
  (by
   have h3 : ((i0.bytes * n : Nat) : Int) ≤ 281474976710656 := by rw [hz2, Nat.mul_comm]; omega
   rwa [Int.natCast_mul] at h3) (by omega)
 simp only [Int.toNat_natCast] at hr
 rw [hr, hz1, hz, made_flat zc hpos]
section
variable {P : Program} {md : Region.Mode} {ops : Array Oper} {Q : Exit → Act → World → Prop} {ds : List Nat} {S : World → Prop}
theorem twoB {i j : Nat} {Ni Nj : Option Tmp} {oi oj : Oper} {fuel : Nat} {l : Array Bool} {a : Act} {w : World} (hi : ops[i]? = some oi) (hj : ops[j]? = some oj) (hNi : oi.dst = Ni) (hNj : oj.dst = Nj)
  (hc : (Region.ready md ops l == [i, j]) = true) (hdi : i ∉ ds) (hdj : j ∉ ds)
  (h1 : ∀ K : Act → World → Prop, Shut (∀ a' w', S w' → (S w' → wpAnyLast P md ops Q S ds fuel (l.setIfInBounds i true) a' w') → K a' w') → if Region.wanted oi (yielded ops a.tmps) = true then Oper.wp P oi a w K Q else K (a.put Ni undef) w)
  (h2 : ∀ K : Act → World → Prop, Shut (∀ a' w', S w' → (S w' → wpAnyLast P md ops Q S ds fuel (l.setIfInBounds j true) a' w') → K a' w') → if Region.wanted oj (yielded ops a.tmps) = true then Oper.wp P oj a w K Q else K (a.put Nj undef) w) :
  wpAnyLast P md ops Q S ds (fuel + 1) l a w := two_ _ _ hi hj hNi hNj (by rw [hc]; simp) hdi hdj h1 h2
theorem threeB {i j k : Nat} {Ni Nj Nk : Option Tmp} {oi oj ok : Oper} {fuel : Nat} {l : Array Bool} {a : Act} {w : World} (hi : ops[i]? = some oi) (hj : ops[j]? = some oj) (hk : ops[k]? = some ok) (hNi : oi.dst = Ni) (hNj : oj.dst = Nj) (hNk : ok.dst = Nk)
  (hc : (Region.ready md ops l == [i, j, k]) = true) (hdi : i ∉ ds) (hdj : j ∉ ds) (hdk : k ∉ ds)
  (h1 : ∀ K : Act → World → Prop, Shut (∀ a' w', S w' → (S w' → wpAnyLast P md ops Q S ds fuel (l.setIfInBounds i true) a' w') → K a' w') → if Region.wanted oi (yielded ops a.tmps) = true then Oper.wp P oi a w K Q else K (a.put Ni undef) w)
  (h2 : ∀ K : Act → World → Prop, Shut (∀ a' w', S w' → (S w' → wpAnyLast P md ops Q S ds fuel (l.setIfInBounds j true) a' w') → K a' w') → if Region.wanted oj (yielded ops a.tmps) = true then Oper.wp P oj a w K Q else K (a.put Nj undef) w)
  (h3 : ∀ K : Act → World → Prop, Shut (∀ a' w', S w' → (S w' → wpAnyLast P md ops Q S ds fuel (l.setIfInBounds k true) a' w') → K a' w') → if Region.wanted ok (yielded ops a.tmps) = true then Oper.wp P ok a w K Q else K (a.put Nk undef) w) :
  wpAnyLast P md ops Q S ds (fuel + 1) l a w := three_ _ _ _ hi hj hk hNi hNj hNk (by rw [hc]; simp) hdi hdj hdk h1 h2 h3
theorem alloc_ev {oi : Oper} {N : Option Tmp} {a : Act} {w : World} {K : Act → World → Prop} (c : Obj) (hw : Region.wanted oi (yielded ops a.tmps) = true) (hN : oi.dst = N) (hrun : ∀ w, (execOp a.eval oi).run P w = .ok (.value (.pointer (some ⟨w.heap.size, 0, none⟩))) (w.alloc c))
  (h : ∀ x W', w.heap.size ≤ x → W'.heap[x]? = some c → Below w.heap.size w W' → K (a.put N (.pointer (some ⟨x, 0, none⟩))) W') : if Region.wanted oi (yielded ops a.tmps) = true then Oper.wp P oi a w K Q else K (a.put N undef) w :=
 value_ hw hN (hrun w) (h _ _ (Nat.le_refl _) (blk_new w c) (b_al w c))
theorem make_ev (n : Nat) {oi : Oper} {N : Option Tmp} {a : Act} {w : World} {K : Act → World → Prop} (c : Obj) (hw : Region.wanted oi (yielded ops a.tmps) = true) (hN : oi.dst = N) (hrun : ∀ w, (execOp a.eval oi).run P w = .ok (.value (.slice (some ⟨w.heap.size, 0, none⟩) n n)) (w.alloc c))
  (h : ∀ x W', w.heap.size ≤ x → W'.heap[x]? = some c → Below w.heap.size w W' → K (a.put N (.slice (some ⟨x, 0, none⟩) n n)) W') : if Region.wanted oi (yielded ops a.tmps) = true then Oper.wp P oi a w K Q else K (a.put N undef) w :=
 value_ hw hN (hrun w) (h _ _ (Nat.le_refl _) (blk_new w c) (b_al w c))
theorem goJ {fuel : Nat} {l l' : Array Bool} {a a' : Act} {w : World} (hl : l = l') (ha : a = a') (h : wpAnyLast P md ops Q S ds fuel l' a' w) : wpAnyLast P md ops Q S ds fuel l a w := by
 subst hl
 subst ha
 exact h
theorem twoNew {i j Ni Nj : Nat} {oi oj : Oper} {fuel : Nat} {l : Array Bool} {a : Act} {w : World} (ci cj : Obj) (ni nj : Nat) (hi : ops[i]? = some oi) (hj : ops[j]? = some oj) (hNi : oi.dst = some Ni) (hNj : oj.dst = some Nj) (hne : Ni ≠ Nj)
  (hc : (Region.ready md ops l == [i, j] && (Region.ready md ops (l.setIfInBounds i true) == [j]) && (Region.ready md ops (l.setIfInBounds j true) == [i])) = true) (hij : i ≠ j) (hdi : i ∉ ds) (hdj : j ∉ ds) (hgi : oi.guard = none) (hgj : oj.guard = none)
  (hri : ∀ w, (execOp a.eval oi).run P w = .ok (.value (.slice (some ⟨w.heap.size, 0, none⟩) ni ni)) (w.alloc ci)) (hrj : ∀ w, (execOp a.eval oj).run P w = .ok (.value (.slice (some ⟨w.heap.size, 0, none⟩) nj nj)) (w.alloc cj))
  (hri2 : ∀ v w, (execOp (a.put (some Nj) v).eval oi).run P w = .ok (.value (.slice (some ⟨w.heap.size, 0, none⟩) ni ni)) (w.alloc ci)) (hrj2 : ∀ v w, (execOp (a.put (some Ni) v).eval oj).run P w = .ok (.value (.slice (some ⟨w.heap.size, 0, none⟩) nj nj)) (w.alloc cj))
  (hS : S w) (hSa : ∀ w o, S w → S (w.alloc o))
  (h : ∀ (x y : Nat) (W : World), x ≠ y → w.heap.size ≤ x → w.heap.size ≤ y → W.heap[x]? = some ci → W.heap[y]? = some cj → Below w.heap.size w W → S W → wpAnyLast P md ops Q S ds fuel ((l.setIfInBounds i true).setIfInBounds j true) ((a.put (some Ni) (.slice (some ⟨x, 0, none⟩) ni ni)).put (some Nj) (.slice (some ⟨y, 0, none⟩) nj nj)) W) :
  wpAnyLast P md ops Q S ds (fuel + 2) l a w := by
 simp only [Bool.and_eq_true] at hc
 obtain ⟨⟨h1, h2⟩, h3⟩ := hc
 have hw : ∀ (o : Oper) (a : Act), o.guard = none → Region.wanted o (yielded ops a.tmps) = true := fun o a hg => by unfold Region.wanted; rw [hg]
 have h2' : ∀ L, Region.ready md ops L == [j] → readyB md ops L (L.setIfInBounds j true) j = true := fun L hL => by unfold readyB; rw [hL]; simp
 have h3' : ∀ L, Region.ready md ops L == [i] → readyB md ops L (L.setIfInBounds i true) i = true := fun L hL => by unfold readyB; rw [hL]; simp
 refine two_ (l.setIfInBounds i true) (l.setIfInBounds j true) hi hj hNi hNj (by simp [h1]) hdi hdj (fun K hK => ?_) (fun K hK => ?_)
 ·refine value_ (hw _ _ hgi) hNi (hri w) (hK.out _ _ (hSa _ _ hS) (fun _ => ?_))
  refine oneB (i := j) (N := some Nj) hj hNj (h2' _ h2) hdj (fun K hK => ?_)
  refine value_ (hw _ _ hgj) hNj (hrj2 _ _) (hK.out _ _ (hSa _ _ (hSa _ _ hS)) (fun _ => ?_))
  refine h w.heap.size (w.alloc ci).heap.size _ (by simp) (Nat.le_refl _) (by simp) (blk_alloc (blk_new w ci) cj) (blk_new (w.alloc ci) cj) (b_tr (b_al w ci) (b_al _ cj)) (hSa _ _ (hSa _ _ hS))
 ·refine value_ (hw _ _ hgj) hNj (hrj w) (hK.out _ _ (hSa _ _ hS) (fun _ => ?_))
  refine oneB (i := i) (N := some Ni) hi hNi (h3' _ h3) hdi (fun K hK => ?_)
  refine value_ (hw _ _ hgi) hNi (hri2 _ _) (hK.out _ _ (hSa _ _ (hSa _ _ hS)) (fun _ => ?_))
  rw [Array.setIfInBounds_comm _ _ (Ne.symm hij)]
  have e : ∀ u v, (a.put (some Nj) v).put (some Ni) u = (a.put (some Ni) u).put (some Nj) v := fun u v => by
   simp only [Act.put]
   rw [Array.setIfInBounds_comm _ _ hne]
  rw [e]
  refine h (w.alloc cj).heap.size w.heap.size _ (by simp) (by simp) (Nat.le_refl _) (blk_new (w.alloc cj) ci) (blk_alloc (blk_new w cj) ci) (b_tr (b_al w cj) (b_al _ ci)) (hSa _ _ (hSa _ _ hS))
end
end Go.Proofs.YtgcgglmmfgmaoaaGreat.PK
end
section
namespace Go.Proofs.YtgcgglmmfgmaoaaGreat.PK
open Go Go.RowKit Go.Proofs.YtgcgglmmfgmaoaaGreatW.PrintWords Go.Proofs.YtgcgglmmfgmaoaaGreatW.PrintLast Go.Proofs.YtgcgglmmfgmaoaaGreatW.PrintMore
attribute [local go_sem] max2_int min2_int max_two min_two
theorem run_copy_sz {P : Program} (w : World) (dT sT ty elem : TypeId) (g o dLen dCap : Nat) (a : Addr) (sLen sCap sz : Nat) (cur : Array Value) (t : TypeId) (cs : List Value)
  (hu : P.underlying dT = some (.slice elem)) (hs : (P.info? elem).map (·.size) = some sz)
  (hg : w.heap[g]? = some (.cells cur t (0, 0))) (hn : cs.length = Nat.min sLen dLen * sz)
  (hsrc : ∀ j v, cs[j]? = some v → w.cell? (a.add j) = some v) (hfit : o + cs.length ≤ cur.size) (h1 : ∀ v ∈ cs, v.oneCell' = true) :
  (Builtin.copy_ #[dT, sT] ty #[.slice (some ⟨g, o, none⟩) dLen dCap, .slice (some a) sLen sCap]).run P w =
   .ok (goInt (Nat.min sLen dLen : Nat)) (w.setRow g (cur.toList.take o ++ cs ++ cur.toList.drop (o + cs.length)).toArray) := by
 have hl := run_loadCells_list (P := P) w a cs hsrc
 have hst := run_storeCells_at P g o t cs 0 cur w hg (by simpa using hfit) h1
 rw [hn] at hl
 cases hq : P.info? elem with
 | none => simp [hq] at hs
 | some i =>
  have hi : i.size = sz := by simpa [hq] using hs
  simp [Builtin.copy_, run_underlying hu, Builtin.lenOf, Builtin.firstCells, sizeOf, typeInfo, hq, hi, hl, hst]
theorem setRow_kp (w : World) (g : Nat) (cs : Array Value) : Kp (fun k => k = g) w (w.setRow g cs) := ⟨rfl, rfl, rfl, by simp [World.setRow], fun k _ hn => setRow_other w g k cs (by omega)⟩
theorem Kp.set_row {F : Nat → Prop} {a b : World} (h : Kp F a b) {nb : Nat} (hp : F nb ∨ a.heap.size ≤ nb) (cs : Array Value) : Kp F a (b.setRow nb cs) :=
 ⟨h.os, h.tape, h.output, by simp [World.setRow]; exact h.size, fun k hk hn => by
  rw [setRow_other b nb k cs (by rintro rfl; exact hp.elim hn (by omega))]
  exact h.block k hk hn⟩
def rowM (x : S55) (m n : Nat) : List Value := (List.replicate m [Value.int .i64 x.f0, .int .i64 x.f1]).flatten ++ (List.replicate (n - m) [Value.int .i64 0, .int .i64 0]).flatten
theorem flat_len (v : List Value) (m : Nat) : ((List.replicate m v).flatten).length = m * v.length := by simp [List.length_flatten]
theorem flat_add (v : List Value) (m k : Nat) : (List.replicate (m + k) v).flatten = (List.replicate m v).flatten ++ (List.replicate k v).flatten := by rw [← List.replicate_append_replicate, List.flatten_append]
theorem rowM_len (x : S55) (m n : Nat) (h : m ≤ n) : (rowM x m n).length = n * 2 := by unfold rowM; rw [List.length_append, flat_len, flat_len]; simp; omega
theorem rowM_step (x : S55) (m j n : Nat) (h : m + j ≤ n) : (rowM x m n).take (m * 2) ++ (List.replicate j [Value.int .i64 x.f0, .int .i64 x.f1]).flatten ++ (rowM x m n).drop (m * 2 + ((List.replicate j [Value.int .i64 x.f0, .int .i64 x.f1]).flatten).length) = rowM x (m + j) n := by
 have e1 : (rowM x m n).take (m * 2) = (List.replicate m [Value.int .i64 x.f0, .int .i64 x.f1]).flatten := by
  unfold rowM
  rw [List.take_append_of_le_length (by rw [flat_len]; simp)]
  exact List.take_of_length_le (by rw [flat_len]; simp)
 have e2 : (rowM x m n).drop (m * 2 + j * 2) = (List.replicate (n - (m + j)) [Value.int .i64 0, .int .i64 0]).flatten := by
  unfold rowM
  rw [show n - m = j + (n - (m + j)) by omega, flat_add]
  rw [← List.append_assoc, List.drop_append_of_le_length (by rw [List.length_append, flat_len, flat_len]; simp <;> omega), List.drop_eq_nil_of_le (by rw [List.length_append, flat_len, flat_len]; simp <;> omega)]
  simp
 rw [e1, flat_len, show [Value.int .i64 x.f0, .int .i64 x.f1].length = 2 from rfl, e2]
 conv => rhs; unfold rowM
 rw [flat_add]
theorem rowM_at (x : S55) (m n i : Nat) (u : Value) (h : ((List.replicate m [Value.int .i64 x.f0, .int .i64 x.f1]).flatten)[i]? = some u) : (rowM x m n)[i]? = some u := by
 have hl := (List.getElem?_eq_some_iff.1 h).1
 unfold rowM
 rw [List.getElem?_append_left hl]; exact h
theorem flat_pre (v : List Value) (j m i : Nat) (u : Value) (hj : j ≤ m) (h : ((List.replicate j v).flatten)[i]? = some u) : ((List.replicate m v).flatten)[i]? = some u := by
 have hl := (List.getElem?_eq_some_iff.1 h).1
 rw [show m = j + (m - j) by omega, flat_add, List.getElem?_append_left hl]; exact h
theorem flat_one (v : List Value) (hv : ∀ u ∈ v, u.oneCell' = true) (m : Nat) : ∀ u ∈ (List.replicate m v).flatten, u.oneCell' = true := by
 intro u hu
 rw [List.mem_flatten] at hu
 obtain ⟨l, hl, hu⟩ := hu
 rw [List.eq_of_mem_replicate hl] at hu
 exact hv u hu
theorem info_item9 : (Tryz.prog.info? 55).map (fun i => (i.zero, i.size, i.bytes)) = some (some (.agg #[.int .i64 0, .int .i64 0]), 2, 16) := by kernel_rfl
theorem info_item8 : (Tryz.prog.info? 55).map (·.size) = some 2 := by kernel_rfl
theorem copy_items {w : World} {x : S55} {nb m n j : Nat} {a : Addr} {ty : TypeId} {sLen sCap dLen dCap : Nat} (hg : w.heap[nb]? = some (.cells (rowM x m n).toArray 55 (0, 0))) (hj : Nat.min sLen dLen = j) (hm : m + j ≤ n) (hsrc : ∀ i u, ((List.replicate j [Value.int .i64 x.f0, .int .i64 x.f1]).flatten)[i]? = some u → w.cell? (a.add i) = some u) :
  (Builtin.copy_ #[71, 71] ty #[.slice (some ⟨nb, m * 2, none⟩) dLen dCap, .slice (some a) sLen sCap]).run Tryz.prog w = .ok (.int .i64 (j : Int)) (w.setRow nb (rowM x (m + j) n).toArray) := by
 have h := run_copy_sz (P := Tryz.prog) w 71 71 ty 55 nb (m * 2) dLen dCap a sLen sCap 2 (rowM x m n).toArray 55 _ Tryz.underlying71 info_item8 hg (by rw [flat_len, hj]; rfl) hsrc (by rw [flat_len]; simp [rowM_len x m n (by omega)]; omega) (flat_one _ (by simp [Value.oneCell']) j)
 rw [h, hj]
 rw [show (rowM x m n).toArray.toList = rowM x m n from rfl, rowM_step x m j n hm]
 rfl
theorem repeat_item (x : S55) (n : Nat) (hn : n ≤ 1000) (xb : Nat) (w : World) (h0 : w.cell? ⟨xb, 0, none⟩ = some (.int .i64 x.f0)) (h1 : w.cell? ⟨xb, 1, none⟩ = some (.int .i64 x.f1)) :
  Calls Tryz.prog 162 #[.slice (some ⟨xb, 0, none⟩) 1 1, .int .i64 (n : Int)] w fun e w' => ∃ g, e = .returned (.slice (some ⟨g, 0, none⟩) n n) ∧ w'.heap[g]? = some (.cells ((List.replicate n [.int .i64 x.f0, .int .i64 x.f1]).flatten.toArray) 55 (0, 0)) ∧ w.heap.size ≤ g ∧ Below w.heap.size w w' := by
 have hw1 : IntKind.u64.wrap (n : Int) = (n : Int) := by unfold IntKind.wrap; simp [IntKind.bits, IntKind.signed]; omega
 have hw2 : IntKind.i64.wrap (n : Int) = (n : Int) := by unfold IntKind.wrap; simp [IntKind.bits, IntKind.signed]; omega
 have hd1 : decide (9223372036854775807 < (n : Int)) = false := by simp; omega
 have hd2 : decide ((n : Int) < 0) = false := by simp
 have KM : Aside0 (∀ W, Calls Tryz.prog 173 #[.int .u64 1, .int .u64 (n : Int)] W fun e w' => e = .returned (.tuple #[.int .u64 0, .int .u64 (n : Int)]) ∧ w' = W) := ⟨fun W => by
  have h := Tryz.bits_Mul 1 n (by omega) (by omega) W
  rw [Nat.one_mul, Nat.div_eq_of_lt (by omega), Nat.mod_eq_of_lt (by omega)] at h
  exact h⟩
 have hmk : ∀ W : World, (Instr.makeSlice 71 (.int .i64 (n : Int)) (.int .i64 (n : Int))).run Tryz.prog W = .ok (.slice (some ⟨W.heap.size, 0, none⟩) n n) (W.alloc (.cells (rowM x 0 n).toArray 55)) := fun W => by
  have h := make_run (P := Tryz.prog) 71 55 [.int .i64 0, .int .i64 0] (.agg #[.int .i64 0, .int .i64 0]) 16 Tryz.underlying71 info_item9 rfl (by simp) (n : Int) n rfl (by omega) (by omega) W
  rw [h]; unfold rowM; simp
 have HMK := am hmk
 clear hmk
 have H01 := am (And.intro h0 h1)
 clear h0 h1
 go_enter Tryz.func162, Tryz.ntmps162
 go_upto_region 6 with (go_at_call 173; refine (KM.out _).mono ?_; rintro e W1 ⟨rfl, rfl⟩)
 have hmk := HMK.out
 go_upto_region 7 with (fail)
 clear hmk HMK hd1 hd2 hw1 hw2 KM
 have HG := am (blk_new W1 (.cells (rowM x 0 n).toArray 55))
 have HB := am (b_al W1 (.cells (rowM x 0 n).toArray 55))
 have hxb := World.block_lt_of_cell? _ _ H01.out.1
 have hc0 := am (And.intro (HB.out.cell (p := ⟨xb, 0, none⟩) hxb) (HB.out.cell (p := ⟨xb, 1, none⟩) hxb))
 rw [H01.out.1, H01.out.2] at hc0
 have HXB := am hxb
 generalize W1.alloc (.cells (rowM x 0 n).toArray 55) = W2 at *
 have HZ := am (Nat.le_refl W1.heap.size)
 obtain ⟨nb, hnb⟩ : ∃ nb, nb = W1.heap.size := ⟨_, rfl⟩
 rw [← hnb] at HG ⊢
 have HNB := am hnb
 clear hxb hnb
 have hcp : ∀ ty, (Builtin.copy_ #[71, 71] ty #[.slice (some ⟨nb, 0, none⟩) n n, .slice (some ⟨xb, 0, none⟩) 1 1]).run Tryz.prog W2 = .ok (.int .i64 ((Nat.min 1 n : Nat) : Int)) (W2.setRow nb (rowM x (0 + Nat.min 1 n) n).toArray) := fun ty => by
  have h := copy_items (ty := ty) (a := ⟨xb, 0, none⟩) (sLen := 1) (sCap := 1) (dLen := n) (dCap := n) (m := 0) (j := Nat.min 1 n) HG.out rfl (by have : Nat.min 1 n ≤ n := Nat.min_le_right _ _; omega) (fun i u h => by
   have h2 := flat_pre [.int .i64 x.f0, .int .i64 x.f1] (Nat.min 1 n) 1 i u (Nat.min_le_left _ _) h
   rw [add_plain]
   match i, h2 with
   | 0, h2 => rw [hc0.out.1]; simpa using h2
   | 1, h2 => rw [hc0.out.2]; simpa using h2)
  simpa using h
 go_upto_block 0 with (fail)
 clear hcp
 have HG2 := am (setRow_heap W2 nb _ (rowM x (0 + Nat.min 1 n) n).toArray _ _ HG.out)
 have HB2 := am (HB.out.trans ((setRow_kp W2 nb (rowM x (0 + Nat.min 1 n) n).toArray).below HB.out.size (fun i hi e => by have := HNB.out; omega)))
 rw [Nat.zero_add] at HG2 HB2
 clear HG HB hc0 H01
 generalize W2.setRow nb (rowM x (Nat.min 1 n) n).toArray = W3 at *
 have hmm := am (show Nat.min 1 n ≤ n ∧ (Nat.min 1 n = 0 → n = 0) from ⟨Nat.min_le_right _ _, fun h => by rcases Nat.eq_zero_or_pos n with h2 | h2; exact h2; rw [show Nat.min 1 n = 1 from Nat.min_eq_left h2] at h; omega⟩)
 generalize Nat.min 1 n = m0 at *
 go_wp2
 go_loopw [8] (fun v w' => ∃ m : Nat, v = .int .i64 m ∧ m ≤ n ∧ (m = 0 → n = 0) ∧ Aside0 (w'.heap[nb]? = some (.cells (rowM x m n).toArray 55 (0, 0))) ∧ Aside0 (Below W1.heap.size W1 w')) (fun v _ => n - (intOf v).toNat)
 case atStart => exact ⟨m0, rfl, hmm.out.1, hmm.out.2, HG2, HB2⟩
 case round =>
  clear HG2 HB2 hmm
  obtain ⟨m, rfl, hm, hm0, hG, hB⟩ := hrel
  by_cases hlt : m < n
  ·have hle : ((m : Int) ≤ (n : Int)) = True := eq_true (by omega)
   have hne : (n = m) = False := eq_false (by omega)
   have hM := am (show Nat.min m (n - m) ≤ n - m ∧ Nat.min m (n - m) ≠ 0 ∧ Nat.min m (n - m) ≤ m by
    have h1 := Nat.min_le_right m (n - m)
    have h2 : 1 ≤ Nat.min m (n - m) := Nat.le_min.2 ⟨by omega, by omega⟩
    exact ⟨h1, by omega, Nat.min_le_left _ _⟩)
   have hcp : ∀ ty, (Builtin.copy_ #[71, 71] ty #[.slice (some ⟨nb, m * 2, none⟩) (n - m) (n - m), .slice (some ⟨nb, 0, none⟩) m n]).run Tryz.prog wr.drew = .ok (.int .i64 ((Nat.min m (n - m) : Nat) : Int)) (wr.drew.setRow nb (rowM x (m + Nat.min m (n - m)) n).toArray) := fun ty =>
    copy_items (w := wr.drew) hG.out rfl (by have := hM.out.1; omega) (fun i u h => by
     have h2 := rowM_at x m n i u (flat_pre _ _ m i u hM.out.2.2 h)
     rw [add_plain]
     rw [show wr.drew.cell? ⟨nb, i, none⟩ = wr.cell? ⟨nb, i, none⟩ from rfl, blk_cell hG.out i, List.getElem?_toArray]
     exact h2)
   clear hm hm0
   go_wp2
   refine startB (n := 10) (F := (· = nb)) (ds := []) (by kernel_rfl) rfl (fun hHeld => ?_)
   refine plan_ [.p 0 38, .p 1 39, .p 2 40, .p 3 41, .p 4 42, .p 5 43, .p 6 44] ?_
   repeat (first | refine jP ?_ | refine jW hHeld ?_ | refine jG ?_)
   refine planE ?_
   refine jO 7 (some 45) (fun K hK => ?_)
   refine value_ (v := .int .i64 ((Nat.min m (n - m) : Nat) : Int)) (w1 := wr.drew.setRow nb (rowM x (m + Nat.min m (n - m)) n).toArray) (by rfl) rfl (by go_simp; try rfl) ?_
   have K9 := am (hHeld.set_row (nb := nb) (.inl rfl) (rowM x (m + Nat.min m (n - m)) n).toArray)
   clear hHeld hcp
   refine hK.out _ _ (K9.out) (fun hHeld => ?_)
   clear hK K
   refine jM 45 ?_
   refine plan_ [.p 8 46, .p 9 8] ?_
   repeat (first | refine jP ?_ | refine jW hHeld ?_ | refine jG ?_)
   refine planE ?_
   refine done_ (by kernel_rfl) ?_
   have GX := am (setRow_heap wr.drew nb _ (rowM x (m + Nat.min m (n - m)) n).toArray _ _ hG.out)
   have BX := am (hB.out.trans (K9.out.below hB.out.size (fun i hi e => by have := HNB.out; omega)))
   generalize Nat.min m (n - m) = j at *
   rw [w64_q _ (by omega) (by have := hM.out.1; omega)]
   clear K9 hG hB hle hne
   go_wp2
   go_roundw
   case rel => exact ⟨m + j, by simp, by have := hM.out.1; omega, fun h => by have := hM.out.2.1; omega, GX, BX⟩
   case measure => have := hM.out; simp [intOf]; omega
  ·obtain rfl : m = n := by omega
   have hG2 := hG.out
   unfold rowM at hG2
   rw [Nat.sub_self, List.replicate_zero, List.flatten_nil, List.append_nil] at hG2
   have G2 := am hG2
   clear hG2 hG hm hm0
   go_wp2
   go_ret
   exact ⟨nb, rfl, G2.out, Nat.le_of_eq HNB.out.symm, hB.out⟩
end Go.Proofs.YtgcgglmmfgmaoaaGreat.PK
end
section
namespace Go.Proofs.YtgcgglmmfgmaoaaGreat.PK
open Go Go.RowKit Go.Proofs.YtgcgglmmfgmaoaaGreatW.PrintWords Go.Proofs.YtgcgglmmfgmaoaaGreatW.PrintLast Go.Proofs.YtgcgglmmfgmaoaaGreatW.PrintMore
attribute [local go_sem] max2_int min2_int max_two min_two
abbrev S (l : List UInt8) : ByteArray := ⟨l.toArray⟩
theorem S_data (l : List UInt8) : (S l).data.toList = l := by simp
theorem S_size (l : List UInt8) : (S l).size = l.length := by simp [ByteArray.size]
theorem S_list (l : List UInt8) : (S l).toList = l := ByteArray.toList_mk l
theorem S_eta (s : ByteArray) : s = S s.data.toList := (Joins.bytes_eta s).symm
theorem ext_data {a b : ByteArray} (h : a.data.toList = b.data.toList) : a = b := by
 rw [S_eta a, S_eta b, h]
theorem S_append (a b : List UInt8) : S a ++ S b = S (a ++ b) := by
 apply ext_data
 rw [Joins.data_append, S_data, S_data, S_data]
theorem S_extract (l : List UInt8) (i j : Nat) : (S l).extract i j = S ((l.drop i).take (j - i)) := by
 apply ext_data
 rw [ByteArray.data_extract, Array.toList_extract, S_data, S_data, List.extract_eq_take_drop]
theorem S_take (l : List UInt8) (j : Nat) : (S l).extract 0 j = S (l.take j) := by rw [S_extract]; rfl
theorem w64 (n : Int) (h0 : -9223372036854775808 ≤ n) (h1 : n < 9223372036854775808) : wrap64 n = n := by
 unfold wrap64
 omega
theorem and_one (x : Int) : Go.bits .and .i64 x 1 = x % 2 := by
 have h : (BitVec.ofInt 64 x &&& BitVec.ofInt 64 1).toNat = (x % 2).toNat := by
  rw [BitVec.toNat_and]
  have e1 : (BitVec.ofInt 64 1).toNat = 2 ^ 1 - 1 := rfl
  rw [e1, Nat.and_two_pow_sub_one_eq_mod, BitVec.toNat_ofInt]
  omega
 unfold Go.bits
 show IntKind.i64.wrap ((BitVec.ofInt 64 x &&& BitVec.ofInt 64 1).toNat : Int) = _
 rw [h, IntKind.wrap_i64]
 omega
def bitC (b : Int) : UInt8 := if b = 1 then 49 else 48
def bitL (n : Int) : Nat → List UInt8
 | 0 => []
 | m + 1 => bitC (n / 2 ^ m % 2) :: bitL n m
theorem bitL_length (n : Int) : ∀ m, (bitL n m).length = m
 | 0 => rfl
 | m + 1 => by rw [bitL, List.length_cons, bitL_length n m]
theorem bitL_get (n : Int) : ∀ (m i : Nat) (h : i < m), (bitL n m)[i]'(by rw [bitL_length]; exact h) = bitC (n / 2 ^ (m - 1 - i) % 2)
 | m + 1, 0, _ => by simp [bitL]
 | m + 1, i + 1, h => by
  have := bitL_get n m i (by omega)
  simp only [bitL, List.getElem_cons_succ, this]
  congr 4
  omega
theorem bitC_bit (b : Int) : (bitC b).toNat = 48 ∨ (bitC b).toNat = 49 := by
 unfold bitC
 split
 ·exact .inr rfl
 ·exact .inl rfl
def isBits (l : List UInt8) : Prop := ∀ c ∈ l, c.toNat = 48 ∨ c.toNat = 49
theorem bitL_bits (n : Int) : ∀ m, isBits (bitL n m)
 | 0 => fun c h => by simp [bitL] at h
 | m + 1 => fun c h => by
  rcases List.mem_cons.1 h with rfl | h
  ·exact bitC_bit _
  ·exact bitL_bits n m c h
theorem sym_Bits_loop (n : Int) (m : Nat) (hm : m ≤ 62) (h0 : 0 < m) : ∀ (d k i : Nat) (xs : List Int), i + d = m → xs.length = m → d < k →
  (xs.take i).map (fun n => UInt8.ofNat n.toNat) = (bitL n m).take i →
  sym_Bits.l0 k n m xs m i = some (S (bitL n m)) := by
 intro d
 induction d with
 | zero =>
  intro k i xs hi hl hk hx
  obtain ⟨k, rfl⟩ : ∃ q, k = q + 1 := ⟨k - 1, by omega⟩
  simp only [sym_Bits.l0]
  rw [if_neg (by omega)]
  rw [List.take_of_length_le (by omega), List.take_of_length_le (by rw [bitL_length]; omega)] at hx
  congr 1
  unfold strOfNums
  rw [hx]
 | succ d ih =>
  intro k i xs hi hl hk hx
  obtain ⟨k, rfl⟩ : ∃ q, k = q + 1 := ⟨k - 1, by omega⟩
  simp only [sym_Bits.l0]
  have e1 : wrap64 ((m : Int) - 1) = (m : Int) - 1 := w64 _ (by omega) (by omega)
  have e2 : wrap64 ((m : Int) - 1 - (i : Int)) = ((m - 1 - i : Nat) : Int) := by rw [w64 _ (by omega) (by omega)]; omega
  have e3 : wrap64 ((i : Int) + 1) = ((i + 1 : Nat) : Int) := by rw [w64 _ (by omega) (by omega)]; omega
  have e4 : shr .i64 n ((m - 1 - i : Nat) : Int) = n / 2 ^ (m - 1 - i) := by
   unfold shr
   rw [Nat.min_eq_left (by simp [IntKind.bits]; omega)]
   simp
  rw [if_pos (by omega), e1, e2, if_pos (by omega), if_pos (by omega), if_pos (by omega), e3, e4, and_one]
  refine ih k (i + 1) _ (by omega) (by rw [List.length_set]; exact hl) (by omega) ?_
  have hb : n / 2 ^ (m - 1 - i) % 2 = 0 ∨ n / 2 ^ (m - 1 - i) % 2 = 1 := by omega
  have hR : (bitL n m).take (i + 1) = (xs.take i).map (fun n => UInt8.ofNat n.toNat) ++ [bitC (n / 2 ^ (m - 1 - i) % 2)] := by
   rw [List.take_succ_eq_append_getElem (by rw [bitL_length]; omega), ← hx, bitL_get n m i (by omega)]
  rw [hR]
  rw [List.take_succ_eq_append_getElem (by rw [List.length_set]; omega)]
  have ei : ((i : Nat) : Int).toNat = i := by simp
  rw [ei, List.take_set_of_le (Nat.le_refl _), List.map_append, List.getElem_set_self]
  congr 1
  rcases hb with h | h <;> rw [h] <;> simp [bitC, wrap64]
theorem sym_Bits_eq (n : Int) (m : Nat) (k : Nat) (h0 : 0 < m) (hm : m ≤ 62) (hk : 70 ≤ k) : sym_Bits.f k n m = some (S (bitL n m)) := by
 obtain ⟨k, rfl⟩ : ∃ q, k = q + 1 := ⟨k - 1, by omega⟩
 unfold sym_Bits.f
 rw [if_neg (by omega)]
 have e : decide ((m : Int) > 62) = false := by simp; omega
 rw [e]
 simp only [sym_Bits.j0]
 rw [if_neg (by decide), if_pos (by omega), if_pos (by simp; omega)]
 simp only [Option.bind_some]
 have el : ((List.replicate (m : Int).toNat 0 : List Int).length : Int) = (m : Int) := by simp
 rw [el]
 exact sym_Bits_loop n m hm h0 m k 0 _ (by omega) (by simp) (by omega) rfl
def val : List UInt8 → Nat → Nat
 | [], v => v
 | c :: l, v => val l (2 * v + (c.toNat - 48))
theorem val_lt : ∀ (l : List UInt8) (v n : Nat), isBits l → v < 2 ^ n → val l v < 2 ^ (n + l.length)
 | [], v, n, _, h => h
 | c :: l, v, n, hb, h => by
  have hc := hb c (List.mem_cons_self ..)
  have := val_lt l (2 * v + (c.toNat - 48)) (n + 1) (fun x hx => hb x (List.mem_cons_of_mem _ hx)) (by rw [Nat.pow_succ]; omega)
  rw [val, List.length_cons]
  rw [show n + (l.length + 1) = n + 1 + l.length by omega]
  exact this
theorem emod_double (n P : Int) (hP : 0 < P) : n % (P * 2) = n % P + P * (n / P % 2) := by
 have h1 := Int.mul_ediv_add_emod n P
 have h2 := Int.mul_ediv_add_emod (n / P) 2
 have h3 := Int.emod_nonneg n (show P ≠ 0 by omega)
 have h4 := Int.emod_lt_of_pos n hP
 have hq : n / P % 2 = 0 ∨ n / P % 2 = 1 := by omega
 have e : n = (n % P + P * (n / P % 2)) + (P * 2) * (n / P / 2) := by
  have h5 : P * (n / P) = P * (2 * (n / P / 2) + n / P % 2) := by rw [h2]
  rw [Int.mul_add, ← Int.mul_assoc] at h5
  omega
 have h6 : (n % P + P * (n / P % 2) + (P * 2) * (n / P / 2)) % (P * 2) = (n % P + P * (n / P % 2)) % (P * 2) := Int.add_mul_emod_self_left ..
 have h7 : (n % P + P * (n / P % 2)) % (P * 2) = n % P + P * (n / P % 2) := by
  rcases hq with h | h <;> rw [h]
  ·rw [Int.mul_zero]
   exact Int.emod_eq_of_lt (by omega) (by omega)
  ·rw [Int.mul_one]
   exact Int.emod_eq_of_lt (by omega) (by omega)
 rw [← h7, ← h6, ← e]
theorem two_pow_pos (m : Nat) : (0 : Int) < 2 ^ m := Int.pow_pos (by decide)
theorem val_bitL (n : Int) : ∀ (m v : Nat), (val (bitL n m) v : Int) = v * 2 ^ m + n % 2 ^ m
 | 0, v => by simp [bitL, val, Int.emod_one]
 | m + 1, v => by
  rw [bitL, val, val_bitL n m]
  have hb : n / 2 ^ m % 2 = 0 ∨ n / 2 ^ m % 2 = 1 := by omega
  have hbit : (((bitC (n / 2 ^ m % 2)).toNat - 48 : Nat) : Int) = n / 2 ^ m % 2 := by
   rcases hb with h | h <;> rw [h] <;> rfl
  have hs : n % 2 ^ (m + 1) = n % 2 ^ m + 2 ^ m * (n / 2 ^ m % 2) := by
   rw [Int.pow_succ]
   exact emod_double n _ (two_pow_pos m)
  rw [hs]
  have e : ((2 * v + ((bitC (n / 2 ^ m % 2)).toNat - 48) : Nat) : Int) = 2 * (v : Int) + n / 2 ^ m % 2 := by
   rw [Int.natCast_add, hbit]
   omega
  rw [e, Int.pow_succ, Int.add_mul, Int.mul_comm (n / 2 ^ m % 2)]
  have : 2 * (v : Int) * 2 ^ m = v * (2 ^ m * 2) := by
   rw [Int.mul_comm 2 (v : Int), Int.mul_assoc, Int.mul_comm 2]
  omega
def cleanL (l : List UInt8) : List UInt8 := l.take (cleanLen l)
theorem sym_Clean_eq (l : List UInt8) (h : l.length ≤ 1000) : sym_Clean.f (S l) = some (S (cleanL l)) := by
 unfold sym_Clean.f cleanL
 rw [S_size, S_data, if_pos (by omega), S_take]
theorem u8_eq {a b : UInt8} (h : a.toNat = b.toNat) : a = b := UInt8.toNat_inj.1 h
def wholeL (l : List UInt8) : Bool := l.drop (l.length - 1) == [35] && cleanL l == l
theorem sym_Whole_eq (l : List UInt8) (h : l.length ≤ 1000) : sym_Whole.f (S l) = some (wholeL l) := by
 have hz := S_size l
 have hc := sym_Clean_eq l h
 unfold sym_Whole.f strings_HasSuffix.f stringslite_HasSuffix.f wholeL
 have h1 : (⟨#[35]⟩ : ByteArray).size = 1 := rfl
 by_cases h0 : 1 ≤ l.length
 ·have e1 : wrap64 (((S l).size : Int) - ((⟨#[35]⟩ : ByteArray).size : Int)) = ((l.length - 1 : Nat) : Int) := by
   rw [w64 _ (by omega) (by omega)]; omega
  rw [if_pos (by omega), e1, if_pos (by omega), if_pos (by omega), Int.toNat_natCast, S_extract, hz, S_list]
  have e2 : (l.drop (l.length - 1)).take (l.length - (l.length - 1)) = l.drop (l.length - 1) := List.take_of_length_le (by rw [List.length_drop]; omega)
  rw [e2, show (⟨#[35]⟩ : ByteArray) = S [35] from rfl, S_list]
  simp only [Option.bind_some]
  cases hb : l.drop (l.length - 1) == [35] with
  | true => rw [if_pos rfl, hc]; simp only [Option.bind_some, S_list, Bool.true_and]
  | false => rw [if_neg (by decide), Bool.false_and]
 ·have : l = [] := List.eq_nil_of_length_eq_zero (by omega)
  subst this
  rw [if_neg (by rw [hz]; decide)]
  rfl
def turnC (c : UInt8) : UInt8 := UInt8.ofNat (turnedN c.toNat)
def turnL (l : List UInt8) (j : Nat) : List UInt8 := l.set j (turnC (l.getD j 0))
theorem turnB_eq (l : List UInt8) (j : Nat) : turnB (S l) j = S (turnL l j) := by
 unfold turnB turnL strOfNums bytesOf
 rw [S_data]
 congr 2
 rw [List.map_set, List.map_map]
 have hid : l.map ((fun n : Int => UInt8.ofNat n.toNat) ∘ fun b : UInt8 => (b.toNat : Int)) = l := by
  have : ((fun n : Int => UInt8.ofNat n.toNat) ∘ fun b : UInt8 => (b.toNat : Int)) = id := by
   funext b
   simp
  rw [this, List.map_id]
 rw [hid]
 simp [turnC]
theorem sym_Turn_eq (l : List UInt8) (j : Nat) (h : j < l.length) : sym_Turn.f (S l) j = some (S (turnL l j)) := by
 unfold sym_Turn.f
 rw [if_neg (by rw [S_size]; omega), Int.toNat_natCast, turnB_eq]
theorem sym_Turn_out (l : List UInt8) (a : Int) (h : a < 0 ∨ (l.length : Int) ≤ a) : sym_Turn.f (S l) a = some (S l) := by
 unfold sym_Turn.f
 rw [if_pos (by rw [S_size]; exact h)]
theorem cleanL_cons (c : UInt8) (l : List UInt8) : cleanL (c :: l) = if c.toNat = 35 then [c] else if c.toNat = 48 ∨ c.toNat = 49 then c :: cleanL l else [] := by
 unfold cleanL
 rw [cleanLen]
 split
 ·simp
 ·split
  ·simp
  ·simp
theorem val_bitL0 (n : Int) (m : Nat) : (val (bitL n m) 0 : Int) = n % 2 ^ m := by
 have := val_bitL n m 0
 simpa using this
theorem double_xor (a b : Nat) : 2 * (a ^^^ b) = (2 * a) ^^^ (2 * b) := by
 have h : ∀ x : Nat, 2 * x = x <<< 1 := fun x => by rw [Nat.shiftLeft_eq]; omega
 rw [h, h, h, Nat.shiftLeft_xor_distrib]
theorem top_bit (n : Nat) (h : n < 65536) : n / 32768 = 0 ∨ n / 32768 = 1 := by omega
theorem xor_lt16 {a b : Nat} (ha : a < 65536) (hb : b < 65536) : a ^^^ b < 65536 := Nat.xor_lt_two_pow (n := 16) ha hb
def bit01 (b : Nat) : Prop := b = 0 ∨ b = 1
theorem bit01_xor {a b : Nat} (ha : bit01 a) (hb : bit01 b) : bit01 (a ^^^ b) := by
 rcases ha with rfl | rfl <;> rcases hb with rfl | rfl <;> simp [bit01]
theorem step_form (n b : Nat) (hn : n < 65536) (hb : bit01 b) : sumStep n b = (2 * n % 65536) ^^^ (((n / 32768) ^^^ b) * 4129) := by
 unfold sumStep
 rcases top_bit n hn with h | h <;> rcases hb with rfl | rfl <;> rw [h] <;> simp
theorem mul_bit_xor {a b : Nat} (ha : bit01 a) (hb : bit01 b) (c : Nat) : (a ^^^ b) * c = (a * c) ^^^ (b * c) := by
 rcases ha with rfl | rfl <;> rcases hb with rfl | rfl <;> simp
theorem xor4 (a b c d : Nat) : (a ^^^ b) ^^^ (c ^^^ d) = (a ^^^ c) ^^^ (b ^^^ d) := by
 rw [Nat.xor_assoc, Nat.xor_assoc, ← Nat.xor_assoc b c d, Nat.xor_comm b c, Nat.xor_assoc c b d]
theorem step_xor (n m b c : Nat) (hn : n < 65536) (hm : m < 65536) (hb : bit01 b) (hc : bit01 c) :
  sumStep (n ^^^ m) (b ^^^ c) = sumStep n b ^^^ sumStep m c := by
 rw [step_form _ _ (xor_lt16 hn hm) (bit01_xor hb hc), step_form n b hn hb, step_form m c hm hc]
 have h1 : 2 * (n ^^^ m) % 65536 = (2 * n % 65536) ^^^ (2 * m % 65536) := by
  rw [double_xor]; exact Nat.xor_mod_two_pow (n := 16)
 have h2 : (n ^^^ m) / 32768 = (n / 32768) ^^^ (m / 32768) := Nat.xor_div_two_pow (n := 15)
 have tn : bit01 (n / 32768) := top_bit n hn
 have tm : bit01 (m / 32768) := top_bit m hm
 rw [h1, h2, xor4 (n / 32768), mul_bit_xor (bit01_xor tn hb) (bit01_xor tm hc), xor4]
def sumF : List UInt8 → Nat → Nat
 | [], n => n
 | c :: l, n => sumF l (sumStep n (c.toNat - 48))
theorem sumF_lt : ∀ (l : List UInt8) (n : Nat), n < 65536 → sumF l n < 65536
 | [], _, h => h
 | _ :: l, _, _ => sumF_lt l _ (sumStep_lt _ _)
theorem sumF_append : ∀ (a b : List UInt8) (n : Nat), sumF (a ++ b) n = sumF b (sumF a n)
 | [], _, _ => rfl
 | _ :: a, b, _ => sumF_append a b _
theorem sumGo_sumF : ∀ (l : List UInt8) (n : Nat), isBits l → sumGo n l = some (sumF l n)
 | [], _, _ => rfl
 | c :: l, n, h => by
  rw [sumGo, if_pos (h c (List.mem_cons_self ..))]
  exact sumGo_sumF l _ fun x hx => h x (List.mem_cons_of_mem _ hx)
def tt : Nat → Nat → Nat
 | 0, x => x
 | n + 1, x => tt n (sumStep x 0)
theorem step_zero (x : Nat) (hx : x < 65536) (h : sumStep x 0 = 0) : x = 0 := by
 unfold sumStep at h
 rcases top_bit x hx with ht | ht
 ·rw [if_pos ht] at h
  omega
 ·rw [if_neg (by omega)] at h
  exfalso
  have h1 : (2 * x % 65536 ^^^ 4129).testBit 0 = false := by rw [h]; rfl
  rw [Nat.testBit_xor] at h1
  have h2 : (2 * x % 65536).testBit 0 = false := by
   rw [Nat.testBit_zero]; simp
  rw [h2] at h1
  exact absurd h1 (by decide)
theorem tt_zero : ∀ (n x : Nat), x < 65536 → tt n x = 0 → x = 0
 | 0, _, _, h => h
 | n + 1, x, hx, h => step_zero x hx (tt_zero n _ (sumStep_lt _ _) h)
theorem tt_nil : ∀ n, tt n 0 = 0
 | 0 => rfl
 | n + 1 => tt_nil n
theorem turnL_length (l : List UInt8) (j : Nat) : (turnL l j).length = l.length := by unfold turnL; rw [List.length_set]
theorem val_split : ∀ (l : List UInt8) (v : Nat), val l v = v * 2 ^ l.length + val l 0
 | [], v => by simp [val]
 | c :: l, v => by
  rw [val, val, val_split l (2 * v + (c.toNat - 48)), val_split l (2 * 0 + (c.toNat - 48)), List.length_cons, Nat.pow_succ]
  rw [Nat.add_mul, Nat.add_mul, Nat.mul_zero, Nat.zero_mul, Nat.zero_add]
  have : 2 * v * 2 ^ l.length = v * (2 ^ l.length * 2) := by rw [Nat.mul_comm 2 v, Nat.mul_assoc, Nat.mul_comm 2]
  omega
theorem val_lt0 (l : List UInt8) (h : isBits l) : val l 0 < 2 ^ l.length := by
 have := val_lt l 0 0 h (by decide)
 rwa [Nat.zero_add] at this
theorem bitC_of (c : UInt8) (h : c.toNat = 48 ∨ c.toNat = 49) : bitC ((c.toNat - 48 : Nat) : Int) = c := by
 rcases h with h | h
 ·have : c = 48 := u8_eq h
  subst this; rfl
 ·have : c = 49 := u8_eq h
  subst this; rfl
theorem bitL_val : ∀ (l : List UInt8) (v : Nat), isBits l → bitL ((val l v : Nat) : Int) l.length = l
 | [], v, _ => rfl
 | c :: l, v, h => by
  have hc := h c (List.mem_cons_self ..)
  have hl : isBits l := fun x hx => h x (List.mem_cons_of_mem _ hx)
  have hv : val (c :: l) v = val l (2 * v + (c.toNat - 48)) := by rw [val]
  have hq : val l (2 * v + (c.toNat - 48)) / 2 ^ l.length % 2 = c.toNat - 48 := by
   rw [val_split, Nat.mul_comm, Nat.mul_add_div (Nat.two_pow_pos _), Nat.div_eq_of_lt (val_lt0 l hl)]
   omega
  rw [hv, List.length_cons, bitL, bitL_val l _ hl]
  congr 1
  have : (((val l (2 * v + (c.toNat - 48)) : Nat) : Int) / 2 ^ l.length % 2) = ((c.toNat - 48 : Nat) : Int) := by
   exact_mod_cast hq
  rw [this]
  exact bitC_of c hc
theorem step_top (n b : Nat) (hn : n < 65536) (hb : bit01 b) : sumStep n b = sumStep (n ^^^ (b * 32768)) 0 := by
 have hx : b * 32768 < 65536 := Nat.lt_of_le_of_lt (Nat.mul_le_mul_right 32768 (show b ≤ 1 by rcases hb with h | h <;> rw [h] <;> decide)) (by decide)
 have h := step_xor n (b * 32768) 0 0 hn hx (.inl rfl) (.inl rfl)
 have h2 := step_xor n 0 0 b hn (by decide) (.inl rfl) hb
 rw [Nat.xor_self] at h
 rw [Nat.xor_zero, Nat.zero_xor] at h2
 rw [h, h2]
 congr 1
 rcases hb with rfl | rfl <;> decide
theorem step_low (y : Nat) (h : y < 32768) : sumStep y 0 = 2 * y := by
 unfold sumStep
 rw [if_pos (by omega)]
 omega
theorem sumF_val : ∀ (r : List UInt8) (n : Nat), isBits r → n < 65536 → r.length ≤ 16 → sumF r n = tt r.length (n ^^^ (val r 0 * 2 ^ (16 - r.length)))
 | [], n, _, _, _ => by
  show n = n ^^^ (val [] 0 * _)
  simp [val]
 | c :: r, n, h, hn, hl => by
  have hc := h c (List.mem_cons_self ..)
  have hr : isBits r := fun x hx => h x (List.mem_cons_of_mem _ hx)
  have hb : bit01 (c.toNat - 48) := by unfold bit01; omega
  rw [List.length_cons] at hl
  have ih := sumF_val r (sumStep n (c.toNat - 48)) hr (sumStep_lt _ _) (by omega)
  have hvl := val_lt0 r hr
  have hy : val r 0 * 2 ^ (15 - r.length) < 32768 := by
   have h2 : 2 ^ r.length * 2 ^ (15 - r.length) = 32768 := by rw [← Nat.pow_add, show r.length + (15 - r.length) = 15 by omega]
   rw [← h2]
   exact Nat.mul_lt_mul_of_pos_right hvl (Nat.two_pow_pos _)
  have hb32 : (c.toNat - 48) * 32768 < 65536 := Nat.lt_of_le_of_lt (Nat.mul_le_mul_right 32768 (show c.toNat - 48 ≤ 1 by omega)) (by decide)
  show sumF r (sumStep n (c.toNat - 48)) = tt r.length (sumStep (n ^^^ (val (c :: r) 0 * 2 ^ (16 - (r.length + 1)))) 0)
  rw [ih, step_top n _ hn hb]
  have hs := step_xor (n ^^^ ((c.toNat - 48) * 32768)) (val r 0 * 2 ^ (15 - r.length)) 0 0 (xor_lt16 hn hb32) (by omega) (.inl rfl) (.inl rfl)
  rw [Nat.xor_self, step_low _ hy] at hs
  have he : 2 * (val r 0 * 2 ^ (15 - r.length)) = val r 0 * 2 ^ (16 - r.length) := by
   rw [show 16 - r.length = (15 - r.length) + 1 by omega, Nat.pow_succ, Nat.mul_comm 2, Nat.mul_assoc]
  rw [he] at hs
  rw [← hs]
  have hv : val (c :: r) 0 * 2 ^ (16 - (r.length + 1)) = ((c.toNat - 48) * 32768) ^^^ (val r 0 * 2 ^ (15 - r.length)) := by
   have e1 : val (c :: r) 0 = (c.toNat - 48) * 2 ^ r.length + val r 0 := by
    rw [val, val_split]; simp
   have e2 : 2 ^ r.length * 2 ^ (15 - r.length) = 32768 := by rw [← Nat.pow_add, show r.length + (15 - r.length) = 15 by omega]
   rw [e1, show 16 - (r.length + 1) = 15 - r.length by omega, Nat.add_mul, Nat.mul_assoc, e2]
   rcases hb with h0 | h0 <;> rw [h0]
   ·simp
   ·have := Nat.two_pow_add_eq_or_of_lt (i := 15) hy 1
    have hor : (1 * 32768) ^^^ (val r 0 * 2 ^ (15 - r.length)) = 1 * 32768 + val r 0 * 2 ^ (15 - r.length) := by
     generalize val r 0 * 2 ^ (15 - r.length) = y at hy
     apply Nat.eq_of_testBit_eq
     intro i
     have h15 : (32768 : Nat) = 2 ^ 15 := rfl
     rw [Nat.testBit_xor, Nat.one_mul, h15]
     by_cases hi : i = 15
     ·subst hi
      rw [Nat.testBit_two_pow_add_eq, Nat.testBit_two_pow_self, Nat.testBit_lt_two_pow hy]; rfl
     ·rw [Nat.testBit_two_pow_of_ne (by omega)]
      by_cases hlt : i < 15
      ·rw [Nat.testBit_two_pow_add_gt hlt]; simp
      ·rw [Nat.testBit_lt_two_pow (Nat.lt_of_lt_of_le hy (Nat.pow_le_pow_right (show 0 < 2 by decide) (by omega : 15 ≤ i))),
        Nat.testBit_lt_two_pow (Nat.lt_of_lt_of_le (show 2 ^ 15 + y < 2 ^ 16 by omega) (Nat.pow_le_pow_right (show 0 < 2 by decide) (by omega : 16 ≤ i)))]
       rfl
    omega
  rw [hv, Nat.xor_assoc]
theorem sumF_own (r : List UInt8) (n : Nat) (h : isBits r) (hn : n < 65536) (hl : r.length = 16) : sumF r n = 0 ↔ r = bitL (n : Int) 16 := by
 have hv := sumF_val r n h hn (by omega)
 have hlt := val_lt0 r h
 rw [hl] at hv hlt
 have e0 : val r 0 * 2 ^ (16 - 16) = val r 0 := by simp
 rw [e0] at hv
 have hx : n ^^^ val r 0 < 65536 := xor_lt16 hn hlt
 constructor
 ·intro hz
  rw [hz] at hv
  have h0 := tt_zero 16 _ hx hv.symm
  have hnv : val r 0 = n := by
   have : n ^^^ (n ^^^ val r 0) = n ^^^ 0 := congrArg (fun x => n ^^^ x) h0
   rw [← Nat.xor_assoc, Nat.xor_self, Nat.zero_xor, Nat.xor_zero] at this
   exact this
  have := bitL_val r 0 h
  rw [hl, hnv] at this
  exact this.symm
 ·intro he
  have hb := val_bitL0 (n : Int) 16
  rw [← he] at hb
  have hnv : val r 0 = n := by
   have h16 : (n : Int) % 2 ^ 16 = n := Int.emod_eq_of_lt (by omega) (by omega)
   omega
  rw [hv, hnv, Nat.xor_self]
  exact tt_nil 16
def syn (w : List UInt8) : Nat := sumF w 65535
theorem taken_iff (w : List UInt8) (n : Nat) (hb : isBits w) (hl : w.length = n + 16) : bitL (sumF (w.take n) 65535 : Nat) 16 = w.drop n ↔ syn w = 0 := by
 have hd : isBits (w.drop n) := fun c hc => hb c (List.mem_of_mem_drop hc)
 have hdl : (w.drop n).length = 16 := by rw [List.length_drop]; omega
 have := sumF_own (w.drop n) (sumF (w.take n) 65535) hd (sumF_lt _ _ (by decide)) hdl
 have e : syn w = sumF (w.drop n) (sumF (w.take n) 65535) := by
  unfold syn
  rw [← sumF_append, List.take_append_drop]
 rw [e, this]
 exact ⟨fun h => h.symm, fun h => h.symm⟩
theorem crc_Sum_eq (l : List UInt8) (h : isBits l) : crc_Sum.f (S l) = some ((sumF l 65535 : Nat) : Int) := by
 unfold crc_Sum.f
 rw [S_data, sumGo_sumF l 65535 h]
 rfl
def wrapL (l : List UInt8) : List UInt8 := l ++ bitL (sumF l 65535 : Nat) 16
theorem wrapL_length (l : List UInt8) : (wrapL l).length = l.length + 16 := by unfold wrapL; rw [List.length_append, bitL_length]
theorem whole_bits : ∀ l : List UInt8, wholeL l = true → ∃ w, isBits w ∧ l = w ++ [35]
 | [], h => absurd h (by decide)
 | c :: l, h => by
  unfold wholeL at h
  rw [Bool.and_eq_true] at h
  have hc := beq_iff_eq.1 h.2
  rw [cleanL_cons] at hc
  by_cases h1 : c.toNat = 35
  ·rw [if_pos h1] at hc
   have hl : l = [] := (List.cons.inj hc).2.symm
   subst hl
   exact ⟨[], fun c h => by simp at h, by rw [show c = 35 from u8_eq h1]; rfl⟩
  ·rw [if_neg h1] at hc
   by_cases h2 : c.toNat = 48 ∨ c.toNat = 49
   ·rw [if_pos h2] at hc
    have hl : cleanL l = l := (List.cons.inj hc).2
    have h0 : 0 < l.length := by
     refine Nat.pos_of_ne_zero fun e => ?_
     have : l = [] := List.eq_nil_of_length_eq_zero e
     subst this
     have := List.cons.inj (beq_iff_eq.1 h.1)
     exact h1 (by rw [this.1]; rfl)
    have hw : wholeL l = true := by
     unfold wholeL
     rw [hl, beq_self_eq_true, Bool.and_true]
     have := h.1
     rw [List.length_cons, show l.length + 1 - 1 = l.length - 1 + 1 by omega, List.drop_succ_cons] at this
     exact this
    obtain ⟨w, hb, e⟩ := whole_bits l hw
    refine ⟨c :: w, fun x hx => ?_, by rw [e]; rfl⟩
    rcases List.mem_cons.1 hx with rfl | hx
    ·exact h2
    ·exact hb x hx
   ·rw [if_neg h2] at hc
    exact absurd hc (by simp)
def openW (w : List UInt8) : ByteArray × Int :=
 if w.length < 16 then (S [], 3) else if syn w = 0 then (S (w.take (w.length - 16)), 0) else (S [], 5)
theorem open_parts (w : List UInt8) (h16 : ¬ w.length < 16) :
  (S (w ++ [35])).extract 0 (((w.length - 16 : Nat) : Int)).toNat = S (w.take (w.length - 16)) ∧ (S (w ++ [35])).extract (((w.length - 16 : Nat) : Int)).toNat ((w.length : Nat) : Int).toNat = S (w.drop (w.length - 16)) := by
 rw [Int.toNat_natCast, Int.toNat_natCast, S_take, S_extract]
 constructor
 ·rw [List.take_append_of_le_length (by omega)]
 ·rw [List.drop_append_of_le_length (by omega), List.take_append_of_le_length (by rw [List.length_drop]; omega), List.take_of_length_le (by rw [List.length_drop]; omega)]
end Go.Proofs.YtgcgglmmfgmaoaaGreat.PK
end
section
namespace Go.Proofs.YtgcgglmmfgmaoaaGreat.PK
open Go Go.RowKit Go.Proofs.YtgcgglmmfgmaoaaGreatW.PrintWords Go.Proofs.YtgcgglmmfgmaoaaGreatW.PrintLast Go.Proofs.YtgcgglmmfgmaoaaGreatW.PrintMore
attribute [local go_sem] max2_int min2_int max_two min_two
def idxP {α : Type} (p : α → Bool) : List α → Int → Int
 | [], _ => -1
 | x :: l, i => if p x = true then i else idxP p l (i + 1)
theorem idxP_any {α : Type} (p : α → Bool) : ∀ (l : List α) (i : Int), 0 ≤ i → decide (0 ≤ idxP p l i) = l.any p
 | [], i, _ => rfl
 | x :: l, i, h => by
  rw [idxP, List.any_cons]
  by_cases hx : p x = true
  ·rw [if_pos hx, hx]; simp [h]
  ·rw [if_neg hx, idxP_any p l (i + 1) (by omega)]; simp [Bool.eq_false_iff.2 hx]
theorem index_own (FN : Nat) (caps : Array Value) (p : Int → Bool) (A0 : Option Addr) (c0 : Nat) (l0 : List Int) (h1 : l0.length ≤ 1000000) (w : World) (hr0 : Kd.C (Kd.int .i64) w A0 l0.length l0)
  (hc : ∀ x W, Below w.heap.size w W → Calls Tryz.prog FN (#[.int .i64 x] ++ caps) W fun e w' => e = .returned (.bool (p x)) ∧ Below W.heap.size W w') (gcap : Nat) (hcap : caps = #[.pointer (some ⟨gcap, 0, none⟩)]) (hfn : FN = 57) :
  Calls Tryz.prog 83 #[.slice A0 l0.length c0, .func (.func FN) #[] caps] w fun e w' => e = .returned (.int .i64 (idxP p l0 0)) ∧ Below w.heap.size w w' := by
 subst hcap hfn
 have HR := am hr0
 have HC := am hc
 clear hr0 hc
 generalize hr : idxP p l0 0 = r
 go_enter Tryz.func83, Tryz.ntmps83
 go_wp2
 go_loopw [8] (fun i w' => ∃ k : Nat, i = .int .i64 k ∧ k ≤ l0.length ∧ Aside0 (idxP p (l0.drop k) k = r) ∧ Aside0 (Below w.heap.size w w')) (fun i _ => l0.length - (intOf i).toNat)
 case atStart => exact ⟨0, rfl, by omega, ⟨hr⟩, ⟨Below.refl _ _⟩⟩
 case round =>
  obtain ⟨k, rfl, hk, hm0, hB⟩ := hrel
  have hm := hm0.out
  clear hm0
  by_cases hlt : k < l0.length
  ·have hp : (0 : Int) ≤ (k : Int) := Int.natCast_nonneg k
   have hq : (k : Int) < (l0.length : Int) := Int.ofNat_lt.2 hlt
   obtain ⟨ad, e, hx0⟩ := Kd.at_int HR.out (k : Int) hp hq
   subst e
   rw [Int.toNat_natCast] at hx0
   replace hx0 := (hB.out.cell (World.block_lt_of_cell? w _ hx0)).trans hx0
   rw [List.drop_eq_getElem_cons hlt, idxP] at hm
   have hrd : rd l0 (k : Int) = l0[k] := by
    unfold rd
    simp [List.getD_eq_getElem?_getD, List.getElem?_eq_getElem hlt]
   rw [hrd] at hx0
   have hcx := HC.out l0[k] _ hB.out
   generalize l0[k] = x at *
   by_cases hpx : p x = true
   ·rw [if_pos hpx] at hm
    rw [hpx] at hcx
    have HM := am hm
    clear hm hpx hrd
    go_wp2_with (go_at_call 57; refine hcx.mono ?_; rintro e W ⟨rfl, hB2⟩; have HB2 := am hB2; clear hB2)
    go_ret
    exact ⟨ret_i _ _ HM.out, hB.out.trans (HB2.out.mono hB.out.size)⟩
   ·rw [if_neg hpx] at hm
    rw [Bool.eq_false_iff.2 hpx] at hcx
    have HM := am hm
    clear hm hpx hrd
    go_wp2_with (go_at_call 57; refine hcx.mono ?_; rintro e W ⟨rfl, hB2⟩; have HB2 := am hB2; clear hB2)
    go_roundw
    case rel => exact ⟨k + 1, by simp, by omega, HM, ⟨hB.out.trans (HB2.out.mono hB.out.size)⟩⟩
    case measure => simp [intOf]; omega
  ·obtain rfl : k = l0.length := by omega
   rw [List.drop_length] at hm
   have HM := am hm
   clear hm
   go_wp2
   go_ret
   exact ⟨ret_i _ _ HM.out, hB.out⟩
theorem has_own (caps : Array Value) (p : Int → Bool) (A0 : Option Addr) (c0 : Nat) (l0 : List Int) (h1 : l0.length ≤ 1000000) (w : World) (hr0 : Kd.C (Kd.int .i64) w A0 l0.length l0)
  (hc : ∀ x W, Below w.heap.size w W → Calls Tryz.prog 57 (#[.int .i64 x] ++ caps) W fun e w' => e = .returned (.bool (p x)) ∧ Below W.heap.size W w') (gcap : Nat) (hcap : caps = #[.pointer (some ⟨gcap, 0, none⟩)]) :
  Calls Tryz.prog 56 #[.slice A0 l0.length c0, .func (.func 57) #[] caps] w fun e w' => e = .returned (.bool (l0.any p)) ∧ Below w.heap.size w w' := by
 have HI := index_own 57 caps p A0 c0 l0 h1 w hr0 hc gcap hcap rfl
 subst hcap
 have HP := am (idxP_any p l0 0 (Int.le_refl _))
 clear hr0 hc
 generalize idxP p l0 0 = i at *
 go_enter Tryz.func56, Tryz.ntmps56
 go_wp2_with (go_at_call 83; refine HI.mono ?_; rintro e W ⟨rfl, hB⟩; have HB := am hB; clear hB)
 go_ret
 exact ⟨ret_b _ _ HP.out, HB.out⟩
theorem index_on (FN : Nat) (caps : Array Value) (p : Int → Bool) (A0 : Option Addr) (c0 : Nat) (l0 : List Int) (h1 : l0.length ≤ 1000000) (w : World) (hr0 : Kd.C (Kd.int .i64) w A0 l0.length l0)
  (hc : ∀ x W, Below w.heap.size w W → Calls Tryz.prog FN (#[.int .i64 x] ++ caps) W fun e w' => e = .returned (.bool (p x)) ∧ Below W.heap.size W w') (hcap : caps = #[]) (hfn : FN = 58) :
  Calls Tryz.prog 83 #[.slice A0 l0.length c0, .func (.func FN) #[] caps] w fun e w' => e = .returned (.int .i64 (idxP p l0 0)) ∧ Below w.heap.size w w' := by
 subst hcap hfn
 have HR := am hr0
 have HC := am hc
 clear hr0 hc
 generalize hr : idxP p l0 0 = r
 go_enter Tryz.func83, Tryz.ntmps83
 go_wp2
 go_loopw [8] (fun i w' => ∃ k : Nat, i = .int .i64 k ∧ k ≤ l0.length ∧ Aside0 (idxP p (l0.drop k) k = r) ∧ Aside0 (Below w.heap.size w w')) (fun i _ => l0.length - (intOf i).toNat)
 case atStart => exact ⟨0, rfl, by omega, ⟨hr⟩, ⟨Below.refl _ _⟩⟩
 case round =>
  obtain ⟨k, rfl, hk, hm0, hB⟩ := hrel
  have hm := hm0.out
  clear hm0
  by_cases hlt : k < l0.length
  ·have hp : (0 : Int) ≤ (k : Int) := Int.natCast_nonneg k
   have hq : (k : Int) < (l0.length : Int) := Int.ofNat_lt.2 hlt
   obtain ⟨ad, e, hx0⟩ := Kd.at_int HR.out (k : Int) hp hq
   subst e
   rw [Int.toNat_natCast] at hx0
   replace hx0 := (hB.out.cell (World.block_lt_of_cell? w _ hx0)).trans hx0
   rw [List.drop_eq_getElem_cons hlt, idxP] at hm
   have hrd : rd l0 (k : Int) = l0[k] := by
    unfold rd
    simp [List.getD_eq_getElem?_getD, List.getElem?_eq_getElem hlt]
   rw [hrd] at hx0
   have hcx := HC.out l0[k] _ hB.out
   generalize l0[k] = x at *
   by_cases hpx : p x = true
   ·rw [if_pos hpx] at hm
    rw [hpx] at hcx
    have HM := am hm
    clear hm hpx hrd
    go_wp2_with (go_at_call 58; refine hcx.mono ?_; rintro e W ⟨rfl, hB2⟩; have HB2 := am hB2; clear hB2)
    go_ret
    exact ⟨ret_i _ _ HM.out, hB.out.trans (HB2.out.mono hB.out.size)⟩
   ·rw [if_neg hpx] at hm
    rw [Bool.eq_false_iff.2 hpx] at hcx
    have HM := am hm
    clear hm hpx hrd
    go_wp2_with (go_at_call 58; refine hcx.mono ?_; rintro e W ⟨rfl, hB2⟩; have HB2 := am hB2; clear hB2)
    go_roundw
    case rel => exact ⟨k + 1, by simp, by omega, HM, ⟨hB.out.trans (HB2.out.mono hB.out.size)⟩⟩
    case measure => simp [intOf]; omega
  ·obtain rfl : k = l0.length := by omega
   rw [List.drop_length] at hm
   have HM := am hm
   clear hm
   go_wp2
   go_ret
   exact ⟨ret_i _ _ HM.out, hB.out⟩
theorem has_on (caps : Array Value) (p : Int → Bool) (A0 : Option Addr) (c0 : Nat) (l0 : List Int) (h1 : l0.length ≤ 1000000) (w : World) (hr0 : Kd.C (Kd.int .i64) w A0 l0.length l0)
  (hc : ∀ x W, Below w.heap.size w W → Calls Tryz.prog 58 (#[.int .i64 x] ++ caps) W fun e w' => e = .returned (.bool (p x)) ∧ Below W.heap.size W w') (hcap : caps = #[]) :
  Calls Tryz.prog 56 #[.slice A0 l0.length c0, .func (.func 58) #[] caps] w fun e w' => e = .returned (.bool (l0.any p)) ∧ Below w.heap.size w w' := by
 have HI := index_on 58 caps p A0 c0 l0 h1 w hr0 hc hcap rfl
 subst hcap
 have HP := am (idxP_any p l0 0 (Int.le_refl _))
 clear hr0 hc
 generalize idxP p l0 0 = i at *
 go_enter Tryz.func56, Tryz.ntmps56
 go_wp2_with (go_at_call 83; refine HI.mono ?_; rintro e W ⟨rfl, hB⟩; have HB := am hB; clear hB)
 go_ret
 exact ⟨ret_b _ _ HP.out, HB.out⟩
theorem index_call (FN : Nat) (caps : Array Value) (p : S52 → Bool) (A0 : Option Addr) (c0 : Nat) (l0 : List S52) (h1 : l0.length ≤ 1000000) (w : World) (hr0 : Kd.C k52 w A0 l0.length l0)
  (hc : ∀ x W, Below w.heap.size w W → Calls Tryz.prog FN (#[.agg #[.int .i64 (x : S52).f0, .int .i64 (x : S52).f1, .int .i64 (x : S52).f2, .int .i64 (x : S52).f3]] ++ caps) W fun e w' => e = .returned (.bool (p x)) ∧ Below W.heap.size W w') (gcap : Nat) (hcap : caps = #[.pointer (some ⟨gcap, 0, none⟩)]) (hfn : FN = 60) :
  Calls Tryz.prog 84 #[.slice A0 l0.length c0, .func (.func FN) #[] caps] w fun e w' => e = .returned (.int .i64 (idxP p l0 0)) ∧ Below w.heap.size w w' := by
 subst hcap hfn
 have HR := am hr0
 have HC := am hc
 clear hr0 hc
 generalize hr : idxP p l0 0 = r
 go_enter Tryz.func84, Tryz.ntmps84
 go_wp2
 go_loopw [8] (fun i w' => ∃ k : Nat, i = .int .i64 k ∧ k ≤ l0.length ∧ Aside0 (idxP p (l0.drop k) k = r) ∧ Aside0 (Below w.heap.size w w')) (fun i _ => l0.length - (intOf i).toNat)
 case atStart => exact ⟨0, rfl, by omega, ⟨hr⟩, ⟨Below.refl _ _⟩⟩
 case round =>
  obtain ⟨k, rfl, hk, hm0, hB⟩ := hrel
  have hm := hm0.out
  clear hm0
  by_cases hlt : k < l0.length
  ·have hp : (0 : Int) ≤ (k : Int) := Int.natCast_nonneg k
   have hq : (k : Int) < (l0.length : Int) := Int.ofNat_lt.2 hlt
   obtain ⟨ad, e, hx0, hx1, hx2, hx3⟩ := at_T52 HR.out (k : Int) hp hq
   subst e
   rw [Int.toNat_natCast] at hx0 hx1 hx2 hx3
   replace hx0 := (hB.out.cell (World.block_lt_of_cell? w _ hx0)).trans hx0
   replace hx1 := (hB.out.cell (World.block_lt_of_cell? w _ hx1)).trans hx1
   replace hx2 := (hB.out.cell (World.block_lt_of_cell? w _ hx2)).trans hx2
   replace hx3 := (hB.out.cell (World.block_lt_of_cell? w _ hx3)).trans hx3
   rw [List.drop_eq_getElem_cons hlt, idxP] at hm
   have hrd : rd_T52 l0 (k : Int) = l0[k] := by
    unfold rd_T52
    simp [List.getD_eq_getElem?_getD, List.getElem?_eq_getElem hlt]
   rw [hrd] at hx0 hx1 hx2 hx3
   have hcx := HC.out l0[k] _ hB.out
   generalize l0[k] = x at *
   by_cases hpx : p x = true
   ·rw [if_pos hpx] at hm
    rw [hpx] at hcx
    have HM := am hm
    clear hm hpx hrd
    go_wp2_with (go_at_call 60; refine hcx.mono ?_; rintro e W ⟨rfl, hB2⟩; have HB2 := am hB2; clear hB2)
    go_ret
    exact ⟨ret_i _ _ HM.out, hB.out.trans (HB2.out.mono hB.out.size)⟩
   ·rw [if_neg hpx] at hm
    rw [Bool.eq_false_iff.2 hpx] at hcx
    have HM := am hm
    clear hm hpx hrd
    go_wp2_with (go_at_call 60; refine hcx.mono ?_; rintro e W ⟨rfl, hB2⟩; have HB2 := am hB2; clear hB2)
    go_roundw
    case rel => exact ⟨k + 1, by simp, by omega, HM, ⟨hB.out.trans (HB2.out.mono hB.out.size)⟩⟩
    case measure => simp [intOf]; omega
  ·obtain rfl : k = l0.length := by omega
   rw [List.drop_length] at hm
   have HM := am hm
   clear hm
   go_wp2
   go_ret
   exact ⟨ret_i _ _ HM.out, hB.out⟩
theorem has_call (caps : Array Value) (p : S52 → Bool) (A0 : Option Addr) (c0 : Nat) (l0 : List S52) (h1 : l0.length ≤ 1000000) (w : World) (hr0 : Kd.C k52 w A0 l0.length l0)
  (hc : ∀ x W, Below w.heap.size w W → Calls Tryz.prog 60 (#[.agg #[.int .i64 (x : S52).f0, .int .i64 (x : S52).f1, .int .i64 (x : S52).f2, .int .i64 (x : S52).f3]] ++ caps) W fun e w' => e = .returned (.bool (p x)) ∧ Below W.heap.size W w') (gcap : Nat) (hcap : caps = #[.pointer (some ⟨gcap, 0, none⟩)]) :
  Calls Tryz.prog 61 #[.slice A0 l0.length c0, .func (.func 60) #[] caps] w fun e w' => e = .returned (.bool (l0.any p)) ∧ Below w.heap.size w w' := by
 have HI := index_call 60 caps p A0 c0 l0 h1 w hr0 hc gcap hcap rfl
 subst hcap
 have HP := am (idxP_any p l0 0 (Int.le_refl _))
 clear hr0 hc
 generalize idxP p l0 0 = i at *
 go_enter Tryz.func61, Tryz.ntmps61
 go_wp2_with (go_at_call 84; refine HI.mono ?_; rintro e W ⟨rfl, hB⟩; have HB := am hB; clear hB)
 go_ret
 exact ⟨ret_b _ _ HP.out, HB.out⟩
theorem index_act (FN : Nat) (caps : Array Value) (p : S83 → Bool) (A0 : Option Addr) (c0 : Nat) (l0 : List S83) (h1 : l0.length ≤ 1000000) (w : World) (hr0 : Kd.C k83 w A0 l0.length l0)
  (hc : ∀ x W, Below w.heap.size w W → Calls Tryz.prog FN (#[.agg #[.int .i64 (x : S83).f0, .int .i64 (x : S83).f1, .string (x : S83).f2]] ++ caps) W fun e w' => e = .returned (.bool (p x)) ∧ Below W.heap.size W w') (hcap : caps = #[]) (hfn : FN = 87) :
  Calls Tryz.prog 118 #[.slice A0 l0.length c0, .func (.func FN) #[] caps] w fun e w' => e = .returned (.int .i64 (idxP p l0 0)) ∧ Below w.heap.size w w' := by
 subst hcap hfn
 have HR := am hr0
 have HC := am hc
 clear hr0 hc
 generalize hr : idxP p l0 0 = r
 go_enter Tryz.func118, Tryz.ntmps118
 go_wp2
 go_loopw [8] (fun i w' => ∃ k : Nat, i = .int .i64 k ∧ k ≤ l0.length ∧ Aside0 (idxP p (l0.drop k) k = r) ∧ Aside0 (Below w.heap.size w w')) (fun i _ => l0.length - (intOf i).toNat)
 case atStart => exact ⟨0, rfl, by omega, ⟨hr⟩, ⟨Below.refl _ _⟩⟩
 case round =>
  obtain ⟨k, rfl, hk, hm0, hB⟩ := hrel
  have hm := hm0.out
  clear hm0
  by_cases hlt : k < l0.length
  ·have hp : (0 : Int) ≤ (k : Int) := Int.natCast_nonneg k
   have hq : (k : Int) < (l0.length : Int) := Int.ofNat_lt.2 hlt
   obtain ⟨ad, e, hx0, hx1, hx2⟩ := at_T83 HR.out (k : Int) hp hq
   subst e
   rw [Int.toNat_natCast] at hx0 hx1 hx2
   replace hx0 := (hB.out.cell (World.block_lt_of_cell? w _ hx0)).trans hx0
   replace hx1 := (hB.out.cell (World.block_lt_of_cell? w _ hx1)).trans hx1
   replace hx2 := (hB.out.cell (World.block_lt_of_cell? w _ hx2)).trans hx2
   rw [List.drop_eq_getElem_cons hlt, idxP] at hm
   have hrd : rd_T83 l0 (k : Int) = l0[k] := by
    unfold rd_T83
    simp [List.getD_eq_getElem?_getD, List.getElem?_eq_getElem hlt]
   rw [hrd] at hx0 hx1 hx2
   have hcx := HC.out l0[k] _ hB.out
   generalize l0[k] = x at *
   by_cases hpx : p x = true
   ·rw [if_pos hpx] at hm
    rw [hpx] at hcx
    have HM := am hm
    clear hm hpx hrd
    go_wp2_with (go_at_call 87; refine hcx.mono ?_; rintro e W ⟨rfl, hB2⟩; have HB2 := am hB2; clear hB2)
    go_ret
    exact ⟨ret_i _ _ HM.out, hB.out.trans (HB2.out.mono hB.out.size)⟩
   ·rw [if_neg hpx] at hm
    rw [Bool.eq_false_iff.2 hpx] at hcx
    have HM := am hm
    clear hm hpx hrd
    go_wp2_with (go_at_call 87; refine hcx.mono ?_; rintro e W ⟨rfl, hB2⟩; have HB2 := am hB2; clear hB2)
    go_roundw
    case rel => exact ⟨k + 1, by simp, by omega, HM, ⟨hB.out.trans (HB2.out.mono hB.out.size)⟩⟩
    case measure => simp [intOf]; omega
  ·obtain rfl : k = l0.length := by omega
   rw [List.drop_length] at hm
   have HM := am hm
   clear hm
   go_wp2
   go_ret
   exact ⟨ret_i _ _ HM.out, hB.out⟩
theorem has_act (caps : Array Value) (p : S83 → Bool) (A0 : Option Addr) (c0 : Nat) (l0 : List S83) (h1 : l0.length ≤ 1000000) (w : World) (hr0 : Kd.C k83 w A0 l0.length l0)
  (hc : ∀ x W, Below w.heap.size w W → Calls Tryz.prog 87 (#[.agg #[.int .i64 (x : S83).f0, .int .i64 (x : S83).f1, .string (x : S83).f2]] ++ caps) W fun e w' => e = .returned (.bool (p x)) ∧ Below W.heap.size W w') (hcap : caps = #[]) :
  Calls Tryz.prog 86 #[.slice A0 l0.length c0, .func (.func 87) #[] caps] w fun e w' => e = .returned (.bool (l0.any p)) ∧ Below w.heap.size w w' := by
 have HI := index_act 87 caps p A0 c0 l0 h1 w hr0 hc hcap rfl
 subst hcap
 have HP := am (idxP_any p l0 0 (Int.le_refl _))
 clear hr0 hc
 generalize idxP p l0 0 = i at *
 go_enter Tryz.func86, Tryz.ntmps86
 go_wp2_with (go_at_call 118; refine HI.mono ?_; rintro e W ⟨rfl, hB⟩; have HB := am hB; clear hB)
 go_ret
 exact ⟨ret_b _ _ HP.out, HB.out⟩
theorem index_item (FN : Nat) (caps : Array Value) (p : S55 → Bool) (A0 : Option Addr) (c0 : Nat) (l0 : List S55) (h1 : l0.length ≤ 1000000) (w : World) (hr0 : Kd.C k55 w A0 l0.length l0)
  (hc : ∀ x W, Below w.heap.size w W → Calls Tryz.prog FN (#[.agg #[.int .i64 (x : S55).f0, .int .i64 (x : S55).f1]] ++ caps) W fun e w' => e = .returned (.bool (p x)) ∧ Below W.heap.size W w') (hcap : caps = #[]) (hfn : FN = 168) :
  Calls Tryz.prog 175 #[.slice A0 l0.length c0, .func (.func FN) #[] caps] w fun e w' => e = .returned (.int .i64 (idxP p l0 0)) ∧ Below w.heap.size w w' := by
 subst hcap hfn
 have HR := am hr0
 have HC := am hc
 clear hr0 hc
 generalize hr : idxP p l0 0 = r
 go_enter Tryz.func175, Tryz.ntmps175
 go_wp2
 go_loopw [8] (fun i w' => ∃ k : Nat, i = .int .i64 k ∧ k ≤ l0.length ∧ Aside0 (idxP p (l0.drop k) k = r) ∧ Aside0 (Below w.heap.size w w')) (fun i _ => l0.length - (intOf i).toNat)
 case atStart => exact ⟨0, rfl, by omega, ⟨hr⟩, ⟨Below.refl _ _⟩⟩
 case round =>
  obtain ⟨k, rfl, hk, hm0, hB⟩ := hrel
  have hm := hm0.out
  clear hm0
  by_cases hlt : k < l0.length
  ·have hp : (0 : Int) ≤ (k : Int) := Int.natCast_nonneg k
   have hq : (k : Int) < (l0.length : Int) := Int.ofNat_lt.2 hlt
   obtain ⟨ad, e, hx0, hx1⟩ := at_T55 HR.out (k : Int) hp hq
   subst e
   rw [Int.toNat_natCast] at hx0 hx1
   replace hx0 := (hB.out.cell (World.block_lt_of_cell? w _ hx0)).trans hx0
   replace hx1 := (hB.out.cell (World.block_lt_of_cell? w _ hx1)).trans hx1
   rw [List.drop_eq_getElem_cons hlt, idxP] at hm
   have hrd : rd_T55 l0 (k : Int) = l0[k] := by
    unfold rd_T55
    simp [List.getD_eq_getElem?_getD, List.getElem?_eq_getElem hlt]
   rw [hrd] at hx0 hx1
   have hcx := HC.out l0[k] _ hB.out
   generalize l0[k] = x at *
   by_cases hpx : p x = true
   ·rw [if_pos hpx] at hm
    rw [hpx] at hcx
    have HM := am hm
    clear hm hpx hrd
    go_wp2_with (go_at_call 168; refine hcx.mono ?_; rintro e W ⟨rfl, hB2⟩; have HB2 := am hB2; clear hB2)
    go_ret
    exact ⟨ret_i _ _ HM.out, hB.out.trans (HB2.out.mono hB.out.size)⟩
   ·rw [if_neg hpx] at hm
    rw [Bool.eq_false_iff.2 hpx] at hcx
    have HM := am hm
    clear hm hpx hrd
    go_wp2_with (go_at_call 168; refine hcx.mono ?_; rintro e W ⟨rfl, hB2⟩; have HB2 := am hB2; clear hB2)
    go_roundw
    case rel => exact ⟨k + 1, by simp, by omega, HM, ⟨hB.out.trans (HB2.out.mono hB.out.size)⟩⟩
    case measure => simp [intOf]; omega
  ·obtain rfl : k = l0.length := by omega
   rw [List.drop_length] at hm
   have HM := am hm
   clear hm
   go_wp2
   go_ret
   exact ⟨ret_i _ _ HM.out, hB.out⟩
theorem has_item (caps : Array Value) (p : S55 → Bool) (A0 : Option Addr) (c0 : Nat) (l0 : List S55) (h1 : l0.length ≤ 1000000) (w : World) (hr0 : Kd.C k55 w A0 l0.length l0)
  (hc : ∀ x W, Below w.heap.size w W → Calls Tryz.prog 168 (#[.agg #[.int .i64 (x : S55).f0, .int .i64 (x : S55).f1]] ++ caps) W fun e w' => e = .returned (.bool (p x)) ∧ Below W.heap.size W w') (hcap : caps = #[]) :
  Calls Tryz.prog 167 #[.slice A0 l0.length c0, .func (.func 168) #[] caps] w fun e w' => e = .returned (.bool (l0.any p)) ∧ Below w.heap.size w w' := by
 have HI := index_item 168 caps p A0 c0 l0 h1 w hr0 hc hcap rfl
 subst hcap
 have HP := am (idxP_any p l0 0 (Int.le_refl _))
 clear hr0 hc
 generalize idxP p l0 0 = i at *
 go_enter Tryz.func167, Tryz.ntmps167
 go_wp2_with (go_at_call 175; refine HI.mono ?_; rintro e W ⟨rfl, hB⟩; have HB := am hB; clear hB)
 go_ret
 exact ⟨ret_b _ _ HP.out, HB.out⟩
end Go.Proofs.YtgcgglmmfgmaoaaGreat.PK
end
section
namespace Go.Proofs.YtgcgglmmfgmaoaaGreat.PK
open Go Go.RowKit Go.Proofs.YtgcgglmmfgmaoaaGreatW.PrintWords Go.Proofs.YtgcgglmmfgmaoaaGreatW.PrintLast Go.Proofs.YtgcgglmmfgmaoaaGreatW.PrintMore
attribute [local go_sem] max2_int min2_int max_two min_two
def inB (a l m : Int) : Bool := decide (l ≤ a) && decide (a ≤ m)
theorem conf_in (a l m : Int) (w : World) :
  Calls Tryz.prog 55 #[.int .i64 a, .int .i64 l, .int .i64 m] w fun e w' => e = .returned (.bool (inB a l m)) ∧ w' = w := by
 unfold inB
 by_cases h : l ≤ a
 ·rw [decide_eq_true h, Bool.true_and]
  go_enter Tryz.func55, Tryz.ntmps55
  go_wp2
  go_ret
  exact ⟨rfl, rfl⟩
 ·have hb : decide (l ≤ a) = false := decide_eq_false h
  rw [hb, Bool.false_and]
  clear h
  go_enter Tryz.func55, Tryz.ntmps55
  go_wp2
  go_ret
  exact ⟨rfl, rfl⟩
theorem conf_own (x n : Int) (hn0 : -1000000 ≤ n) (hn1 : n ≤ 1000000) (g : Nat) (w : World) (hN : w.cell? ⟨g, 0, none⟩ = some (.int .i64 n)) :
  Calls Tryz.prog 57 #[.int .i64 x, .pointer (some ⟨g, 0, none⟩)] w fun e w' => e = .returned (.bool (!inB x (-1) (n - 1))) ∧ Below w.heap.size w w' := by
 have KI := fun W => conf_in x (-1) (n - 1) W
 generalize inB x (-1) (n - 1) = b at KI ⊢
 go_enter Tryz.func57, Tryz.ntmps57
 go_wp2_with (go_at_call 55; with_reducible refine (KI _).mono ?_; rintro e W ⟨rfl, rfl⟩)
 go_ret
 exact ⟨rfl, Below.refl _ _⟩
def Cf.err (c : Cf) : Int :=
 if (inB c.n 6 12 && inB c.e 0 100 && inB c.g 0 100 && inB c.first 0 65535) = false then 1
 else if inB c.pi (4 * (c.e + c.g + 1)) 10000 = false then 1
 else if 3 < c.pairs.length then 2
 else if (c.pairs.any fun x => !inB x (-1) (c.n - 1)) = true then 1
 else 0
theorem conf_Check (c : Cf) (A : Option Addr) (m : Nat) (hl : c.pairs.length ≤ 1000000) (w : World) (hr : c.C w A m) :
  Calls Tryz.prog 36 #[c.v A m] w fun e w' => e = .returned (.int .i64 c.err) ∧ Below w.heap.size w w' := by
 obtain ⟨cn, cpi, ce, cg, cf, cp⟩ := c
 have K0 := fun W => conf_in cn 6 12 W
 have K1 := fun W => conf_in ce 0 100 W
 have K2 := fun W => conf_in cg 0 100 W
 have K3 := fun W => conf_in cf 0 65535 W
 have HR := am hr.1
 have HM := am hr.2
 have HE : Aside0 ((Cf.err ⟨cn, cpi, ce, cg, cf, cp⟩) = if (inB cn 6 12 && inB ce 0 100 && inB cg 0 100 && inB cf 0 65535) = false then 1 else if inB cpi (4 * (ce + cg + 1)) 10000 = false then 1 else if 3 < cp.length then 2 else if (cp.any fun x => !inB x (-1) (cn - 1)) = true then 1 else 0) := ⟨rfl⟩
 have q0 : Aside0 (inB cn 6 12 = true → 6 ≤ cn ∧ cn ≤ 12) := ⟨fun h => by unfold inB at h; simp at h; exact h⟩
 have q1 : Aside0 (inB ce 0 100 = true → 0 ≤ ce ∧ ce ≤ 100) := ⟨fun h => by unfold inB at h; simp at h; exact h⟩
 have q2 : Aside0 (inB cg 0 100 = true → 0 ≤ cg ∧ cg ≤ 100) := ⟨fun h => by unfold inB at h; simp at h; exact h⟩
 generalize Cf.err ⟨cn, cpi, ce, cg, cf, cp⟩ = er at *
 generalize inB cn 6 12 = b0 at *
 generalize inB ce 0 100 = b1 at *
 generalize inB cg 0 100 = b2 at *
 generalize inB cf 0 65535 = b3 at *
 clear hr
 go_enter Tryz.func36, Tryz.ntmps36
 go_wp2
 have HB0 := am (((b_al w (.cells #[.int .i64 cn, .int .i64 cpi, .int .i64 ce, .int .i64 cg, .int .i64 cf, .slice A cp.length m] 24)).alloc (by simp) (.cells #[.int .i64 6, .int .i64 0, .int .i64 0, .int .i64 0] 106)).alloc (by simp; omega) (.cells #[.int .i64 12, .int .i64 100, .int .i64 100, .int .i64 65535] 106))
 have HG0 := am (blk_alloc (blk_alloc (blk_new w (.cells #[.int .i64 cn, .int .i64 cpi, .int .i64 ce, .int .i64 cg, .int .i64 cf, .slice A cp.length m] 24)) (.cells #[.int .i64 6, .int .i64 0, .int .i64 0, .int .i64 0] 106)) (.cells #[.int .i64 12, .int .i64 100, .int .i64 100, .int .i64 65535] 106))
 have HG1 := am (blk_alloc (blk_new (w.alloc (.cells #[.int .i64 cn, .int .i64 cpi, .int .i64 ce, .int .i64 cg, .int .i64 cf, .slice A cp.length m] 24)) (.cells #[.int .i64 6, .int .i64 0, .int .i64 0, .int .i64 0] 106)) (.cells #[.int .i64 12, .int .i64 100, .int .i64 100, .int .i64 65535] 106))
 have HG2 := am (blk_new ((w.alloc (.cells #[.int .i64 cn, .int .i64 cpi, .int .i64 ce, .int .i64 cg, .int .i64 cf, .slice A cp.length m] 24)).alloc (.cells #[.int .i64 6, .int .i64 0, .int .i64 0, .int .i64 0] 106)) (.cells #[.int .i64 12, .int .i64 100, .int .i64 100, .int .i64 65535] 106))
 rw [show (w.alloc (.cells #[.int .i64 cn, .int .i64 cpi, .int .i64 ce, .int .i64 cg, .int .i64 cf, .slice A cp.length m] 24)).heap.size = w.heap.size + 1 by simp] at HG1
 rw [show ((w.alloc (.cells #[.int .i64 cn, .int .i64 cpi, .int .i64 ce, .int .i64 cg, .int .i64 cf, .slice A cp.length m] 24)).alloc (.cells #[.int .i64 6, .int .i64 0, .int .i64 0, .int .i64 0] 106)).heap.size = w.heap.size + 1 + 1 by simp] at HG2
 generalize hW : ((w.alloc (.cells #[.int .i64 cn, .int .i64 cpi, .int .i64 ce, .int .i64 cg, .int .i64 cf, .slice A cp.length m] 24)).alloc (.cells #[.int .i64 6, .int .i64 0, .int .i64 0, .int .i64 0] 106)).alloc (.cells #[.int .i64 12, .int .i64 100, .int .i64 100, .int .i64 65535] 106) = W0 at *
 clear hW
 go_loopw [18] (fun i w' => ∃ k : Nat, i = .int .i64 k ∧ k ≤ 4 ∧ Aside0 ((0 < k → b0 = true) ∧ (1 < k → b1 = true) ∧ (2 < k → b2 = true) ∧ (3 < k → b3 = true)) ∧ Drawn0 W0 w') (fun i _ => 4 - (intOf i).toNat)
 case atStart => exact ⟨0, rfl, by omega, ⟨by simp⟩, Drawn0.refl _⟩
 case round =>
  obtain ⟨k, rfl, hk, hp, hD⟩ := hrel
  have g0 := blk_below HG0.out hD.below
  have g1 := blk_below HG1.out hD.below
  have g2 := blk_below HG2.out hD.below
  have hBB := am (b_tr HB0.out hD.below)
  match k, hk, hp with
  | 0, _, hp =>
   have hix : ∀ w, (Instr.index 106 (.agg #[.int .i64 cn, .int .i64 ce, .int .i64 cg, .int .i64 cf]) (.int .i64 0)).run Tryz.prog w = .ok (.int .i64 cn) w := fun _ => by kernel_rfl
   have x1 : wr.cell? ⟨w.heap.size + 1, 0, none⟩ = some (.int .i64 (6)) := (blk_cell g1 0).trans rfl
   have x2 : wr.cell? ⟨w.heap.size + 1 + 1, 0, none⟩ = some (.int .i64 (12)) := (blk_cell g2 0).trans rfl
   clear g0 g1 g2
   cases b0 with
   | true =>
    go_wp2
    go_quiet ((go_at_call 55; exact Calls.quiet_of_same (K0 _)))
    go_wp2
    go_roundw
    case rel => exact ⟨1, rfl, by omega, ⟨by simp⟩, hD.step _⟩
    case measure => simp [intOf]
   | false =>
    have he : er = 1 := by rw [HE.out]; simp
    subst he
    go_wp2
    go_quiet ((go_at_call 55; exact Calls.quiet_of_same (K0 _)))
    go_wp2
    go_ret
    exact ⟨rfl, pw_below_drewN hBB.out _⟩
  | 1, _, hp =>
   have hix : ∀ w, (Instr.index 106 (.agg #[.int .i64 cn, .int .i64 ce, .int .i64 cg, .int .i64 cf]) (.int .i64 1)).run Tryz.prog w = .ok (.int .i64 ce) w := fun _ => by kernel_rfl
   have x1 : wr.cell? ⟨w.heap.size + 1, 1, none⟩ = some (.int .i64 (0)) := (blk_cell g1 1).trans rfl
   have x2 : wr.cell? ⟨w.heap.size + 1 + 1, 1, none⟩ = some (.int .i64 (100)) := (blk_cell g2 1).trans rfl
   clear g0 g1 g2
   cases b1 with
   | true =>
    go_wp2
    go_quiet ((go_at_call 55; exact Calls.quiet_of_same (K1 _)))
    go_wp2
    go_roundw
    case rel => exact ⟨2, rfl, by omega, ⟨by have := hp.out; simp at this ⊢; try exact this⟩, hD.step _⟩
    case measure => simp [intOf]
   | false =>
    have he : er = 1 := by rw [HE.out]; simp
    subst he
    go_wp2
    go_quiet ((go_at_call 55; exact Calls.quiet_of_same (K1 _)))
    go_wp2
    go_ret
    exact ⟨rfl, pw_below_drewN hBB.out _⟩
  | 2, _, hp =>
   have hix : ∀ w, (Instr.index 106 (.agg #[.int .i64 cn, .int .i64 ce, .int .i64 cg, .int .i64 cf]) (.int .i64 2)).run Tryz.prog w = .ok (.int .i64 cg) w := fun _ => by kernel_rfl
   have x1 : wr.cell? ⟨w.heap.size + 1, 2, none⟩ = some (.int .i64 (0)) := (blk_cell g1 2).trans rfl
   have x2 : wr.cell? ⟨w.heap.size + 1 + 1, 2, none⟩ = some (.int .i64 (100)) := (blk_cell g2 2).trans rfl
   clear g0 g1 g2
   cases b2 with
   | true =>
    go_wp2
    go_quiet ((go_at_call 55; exact Calls.quiet_of_same (K2 _)))
    go_wp2
    go_roundw
    case rel => exact ⟨3, rfl, by omega, ⟨by have := hp.out; simp at this ⊢; try exact this⟩, hD.step _⟩
    case measure => simp [intOf]
   | false =>
    have he : er = 1 := by rw [HE.out]; simp
    subst he
    go_wp2
    go_quiet ((go_at_call 55; exact Calls.quiet_of_same (K2 _)))
    go_wp2
    go_ret
    exact ⟨rfl, pw_below_drewN hBB.out _⟩
  | 3, _, hp =>
   have hix : ∀ w, (Instr.index 106 (.agg #[.int .i64 cn, .int .i64 ce, .int .i64 cg, .int .i64 cf]) (.int .i64 3)).run Tryz.prog w = .ok (.int .i64 cf) w := fun _ => by kernel_rfl
   have x1 : wr.cell? ⟨w.heap.size + 1, 3, none⟩ = some (.int .i64 (0)) := (blk_cell g1 3).trans rfl
   have x2 : wr.cell? ⟨w.heap.size + 1 + 1, 3, none⟩ = some (.int .i64 (65535)) := (blk_cell g2 3).trans rfl
   clear g0 g1 g2
   cases b3 with
   | true =>
    go_wp2
    go_quiet ((go_at_call 55; exact Calls.quiet_of_same (K3 _)))
    go_wp2
    go_roundw
    case rel => exact ⟨4, rfl, by omega, ⟨by have := hp.out; simp at this ⊢; try exact this⟩, hD.step _⟩
    case measure => simp [intOf]
   | false =>
    have he : er = 1 := by rw [HE.out]; simp
    subst he
    go_wp2
    go_quiet ((go_at_call 55; exact Calls.quiet_of_same (K3 _)))
    go_wp2
    go_ret
    exact ⟨rfl, pw_below_drewN hBB.out _⟩
  | 4, _, hp =>
   obtain ⟨e0, e1, e2, e3⟩ := hp.out
   have e0 := e0 (by omega)
   have e1 := e1 (by omega)
   have e2 := e2 (by omega)
   have e3 := e3 (by omega)
   subst e0 e1 e2 e3
   obtain ⟨r0, r1⟩ := q0.out rfl
   obtain ⟨r2, r3⟩ := q1.out rfl
   obtain ⟨r4, r5⟩ := q2.out rfl
   have x0 : wr.cell? ⟨w.heap.size, 0, none⟩ = some (.int .i64 cn) := (blk_cell g0 0).trans rfl
   have x1 : wr.cell? ⟨w.heap.size, 1, none⟩ = some (.int .i64 cpi) := (blk_cell g0 1).trans rfl
   have x2 : wr.cell? ⟨w.heap.size, 2, none⟩ = some (.int .i64 ce) := (blk_cell g0 2).trans rfl
   have x3 : wr.cell? ⟨w.heap.size, 3, none⟩ = some (.int .i64 cg) := (blk_cell g0 3).trans rfl
   have x5 : wr.cell? ⟨w.heap.size, 5, none⟩ = some (.slice A cp.length m) := (blk_cell g0 5).trans rfl
   clear g1 g2 K0 K1 K2 K3 q0 q1 q2 hp
   have K4 := fun W => conf_in cpi (4 * (ce + cg + 1)) 10000 W
   have hE := HE.out
   generalize inB cpi (4 * (ce + cg + 1)) 10000 = b4 at *
   have hH := has_own #[.pointer (some ⟨w.heap.size, 0, none⟩)] (fun x => !inB x (-1) (cn - 1)) A m cp hl wr (Kd.C_below HR.out (hBB.out)) (fun x W hb => by
    have x0' : wr.cell? ⟨w.heap.size, 0, none⟩ = some (.int .i64 cn) := x0
    have hx := (hb.cell (World.block_lt_of_cell? _ _ x0')).trans x0'
    exact conf_own x cn (by omega) (by omega) _ W hx) _ rfl
   generalize (cp.any fun x => !inB x (-1) (cn - 1)) = b5 at *
   have HH := am hH
   clear hH g0
   simp only [Bool.and_self, Bool.true_eq_false, if_false] at hE
   cases b4 with
   | false =>
    have he : er = 1 := by rw [hE]; simp
    subst he
    clear hE HE
    go_wp2_with (go_at_call 55; with_reducible refine (K4 _).mono ?_; rintro e W ⟨rfl, rfl⟩)
    go_ret
    exact ⟨rfl, hBB.out⟩
   | true =>
    simp only [Bool.true_eq_false, if_false] at hE
    by_cases h3 : 3 < cp.length
    ·rw [if_pos h3] at hE
     subst hE
     have d3 : decide (3 < (cp.length : Int)) = true := decide_eq_true (by omega)
     have d4 : decide (3 < cp.length) = true := decide_eq_true h3
     clear HE
     go_wp2_with (go_at_call 55; with_reducible refine (K4 _).mono ?_; rintro e W ⟨rfl, rfl⟩)
     go_ret
     exact ⟨rfl, hBB.out⟩
    ·rw [if_neg h3] at hE
     have d3 : decide (3 < (cp.length : Int)) = false := decide_eq_false (by omega)
     have d4 : decide (3 < cp.length) = false := decide_eq_false h3
     cases b5 with
     | true =>
      rw [if_pos rfl] at hE
      subst hE
      clear HE h3
      go_wp2_with (first
       | (go_at_call 55; with_reducible refine (K4 _).mono ?_; rintro e W ⟨rfl, rfl⟩)
       | (go_at_call 56; with_reducible refine HH.out.mono ?_; rintro e W ⟨rfl, hb⟩; have HB := am hb; clear hb))
      go_ret
      exact ⟨rfl, b_tr hBB.out HB.out⟩
     | false =>
      rw [if_neg (by simp)] at hE
      subst hE
      clear HE h3
      go_wp2_with (first
       | (go_at_call 55; with_reducible refine (K4 _).mono ?_; rintro e W ⟨rfl, rfl⟩)
       | (go_at_call 56; with_reducible refine HH.out.mono ?_; rintro e W ⟨rfl, hb⟩; have HB := am hb; clear hb))
      go_ret
      exact ⟨rfl, b_tr hBB.out HB.out⟩
  | k + 5, hk, _ => exact absurd hk (by omega)
end Go.Proofs.YtgcgglmmfgmaoaaGreat.PK
end
section
namespace Go.Proofs.YtgcgglmmfgmaoaaGreat.PK
open Go Go.RowKit Go.Proofs.YtgcgglmmfgmaoaaGreatW.PrintWords Go.Proofs.YtgcgglmmfgmaoaaGreatW.PrintLast Go.Proofs.YtgcgglmmfgmaoaaGreatW.PrintMore
attribute [local go_sem] max2_int min2_int max_two min_two
theorem bld_size : (Tryz.prog.info? 146).map (·.size) = some 2 := by kernel_rfl
theorem bld_lies : liesAt Tryz.prog Tryz.prog.depth 146 (2 / Tryz.prog.cellsOf 146) 0 146 1 = true := by kernel_rfl
theorem bld_check_new (b : Nat) (w : World) (h0 : w.cell? ⟨b, 0, none⟩ = some (.pointer none)) (hsh : w.shape? b = some (146, 2)) (hfz : w.frozen? ⟨b, 0, none⟩ = false) :
  Calls Tryz.prog 119 #[.pointer (some ⟨b, 0, none⟩)] w fun e w' => e = .returned (.tuple #[]) ∧ w' = w.setCell ⟨b, 0, none⟩ (.pointer (some ⟨b, 0, none⟩)) := by
 obtain ⟨j, hj, hjs⟩ := Option.map_eq_some_iff.1 bld_size
 have H := am hsh
 clear hsh
 go_enter Tryz.func119, Tryz.ntmps119
 go_wp2
 rw [Lib.run_to_unsafe (src := 143) (dst := 232) w ⟨b, 0, none⟩ Tryz.underlying143 Tryz.underlying232 hj (by rw [hjs]; decide) H.out (Nat.zero_lt_succ 1)]
 simp only [Result.andThen]
 rw [Oper.upon_value]
 go_wp2
 rw [run_callFunc_extern Tryz.func136 (by kernel_rfl) (by kernel_rfl) (by kernel_rfl) (e := Extern.AbiNoEscape.same) (by kernel_rfl)]
 rw [Lib.run_noEscape]
 simp only [Result.andThen]
 rw [Oper.upon_value]
 go_wp2
 rw [Lib.run_from_unsafe (src := 232) (dst := 143) w ⟨b, 0, none⟩ Tryz.underlying232 Tryz.underlying143 hj H.out bld_lies]
 simp only [Result.andThen]
 rw [Oper.upon_value]
 go_wp2
 go_end0
 exact ⟨rfl, rfl⟩
theorem bld_check_old (b : Nat) (w : World) (h0 : w.cell? ⟨b, 0, none⟩ = some (.pointer (some ⟨b, 0, none⟩))) :
  Calls Tryz.prog 119 #[.pointer (some ⟨b, 0, none⟩)] w fun e w' => e = .returned (.tuple #[]) ∧ w' = w := by
 obtain ⟨j, hj, hjs⟩ := Option.map_eq_some_iff.1 bld_size
 go_enter Tryz.func119, Tryz.ntmps119
 go_wp2
 rw [Lib.run_neq_ptr_same w _ Tryz.underlying143 hj]
 go_wp2
 go_end0
 exact ⟨rfl, rfl⟩
abbrev IsB (B b : Nat) (l : List UInt8) (w : World) : Prop := Lib.IsBuilder 146 5 B b (Lib.byteCells l) w
theorem bld_check (B b : Nat) (bs : List Value) (w : World) (h : Lib.IsBuilder 146 5 B b bs w) :
  Calls Tryz.prog 119 #[.pointer (some ⟨b, 0, none⟩)] w fun e w' => e = .returned (.tuple #[]) ∧ Lib.BuilderAt 146 5 B b (.pointer (some ⟨b, 0, none⟩)) bs w' ∧ Below B w w' := by
 cases h with
 | inl h =>
  refine (bld_check_new b w h.cell0 h.shape h.frozen0).mono ?_
  rintro e w' ⟨rfl, rfl⟩
  exact ⟨rfl, h.used _, (Below.refl B w).setCell (p := ⟨b, 0, none⟩) h.1 _⟩
 | inr h =>
  refine (bld_check_old b w h.cell0).mono ?_
  rintro e w' ⟨rfl, rfl⟩
  exact ⟨rfl, h, Below.refl B _⟩
theorem info_u8_ : (Tryz.prog.info? 5).map (fun i => (i.zero, i.size, i.bytes)) = some (some (.int .u8 0), 1, 1) := by kernel_rfl
theorem bld_WriteString (B b : Nat) (bs : List Value) (s : ByteArray) (w : World) (h : Lib.IsBuilder 146 5 B b bs w) (hlen : bs.length + s.size ≤ 140737488355328) (hBw : B ≤ w.heap.size) :
  Calls Tryz.prog 94 #[.pointer (some ⟨b, 0, none⟩), .string s] w fun e w' => e = .returned (.tuple #[.int .i64 s.size, .nilIface]) ∧ Lib.BuilderAt 146 5 B b (.pointer (some ⟨b, 0, none⟩)) (bs ++ Lib.strCells s) w' ∧ Below B w w' := by
 obtain ⟨i0, hi, hz0, hz1, hz2⟩ := info_parts info_u8_
 go_enter Tryz.func94, Tryz.ntmps94
 go_wp2_with (go_at_call 119; with_reducible refine (bld_check B b bs _ h).mono ?_)
 rintro e w1 ⟨rfl, h1, hb1⟩
 obtain ⟨hB, v, hbk, hown, hne⟩ := h1
 have c0 : w1.cell? ⟨b, 0, none⟩ = some (.pointer (some ⟨b, 0, none⟩)) := (blk_cell hbk 0).trans rfl
 have c1 : w1.cell? ⟨b, 1, none⟩ = some v := (blk_cell hbk 1).trans rfl
 go_wp2_with (at_builtin; refine Lib.wpList_append_own_string _ rfl _ _ 144 9 rfl B 5 i0 Tryz.underlying144 Tryz.underlying9 hi hz0 hz1 hz2 _ _ _ rfl hown s rfl ?c3 ?c4 ?c5 ?_)
 case c3 => unfold maxLen; omega
 case c4 => omega
 case c5 => have := hb1.size; omega
 intro v' w2 hown' hgrow _
 have hb2 := blk_grown hbk hgrow (fun e => hne e.symm)
 have d1 : w2.cell? ⟨b, 1, none⟩ = some v := (blk_cell hb2 1).trans rfl
 have f1 := blk_frozen hb2 1
 obtain ⟨ao, cap, rfl⟩ := own_slice hown'
 have HO := am hown'
 have HB2 := am hb2
 clear hown' hb2
 go_wp2
 go_ret2
 refine ⟨rfl, ?_, ?_⟩
 ·exact Lib.BuilderAt.put (T := 146) (e := 5) hB HB2.out (bs' := bs ++ Lib.strCells s) (by simpa [Lib.strCells_length] using HO.out) (by decide)
 ·exact (hb1.grown hgrow (by have := hb1.size; omega) (fun k hk => (hown.lt k hk).1)).setCell (p := ⟨b, 1, none⟩) hB _
theorem bld_WriteByte (B b : Nat) (bs : List Value) (c : Int) (w : World) (h : Lib.IsBuilder 146 5 B b bs w) (hlen : bs.length + 1 ≤ 140737488355328) (hBw : B ≤ w.heap.size) :
  Calls Tryz.prog 143 #[.pointer (some ⟨b, 0, none⟩), .int .u8 c] w fun e w' => e = .returned .nilIface ∧ Lib.BuilderAt 146 5 B b (.pointer (some ⟨b, 0, none⟩)) (bs ++ [.int .u8 c]) w' ∧ Below B w w' := by
 obtain ⟨i0, hi, hz0, hz1, hz2⟩ := info_parts info_u8_
 go_enter Tryz.func143, Tryz.ntmps143
 go_wp2_with (go_at_call 119; with_reducible refine (bld_check B b bs _ h).mono ?_)
 rintro e w1 ⟨rfl, h1, hb1⟩
 obtain ⟨hB, v, hbk, hown, hne⟩ := h1
 have c0 : w1.cell? ⟨b, 0, none⟩ = some (.pointer (some ⟨b, 0, none⟩)) := (blk_cell hbk 0).trans rfl
 have c1 : w1.cell? ⟨b, 1, none⟩ = some v := (blk_cell hbk 1).trans rfl
 go_wp2_with (at_builtin; refine wpList_append_own _ rfl _ _ 144 rfl B 5 i0 (.int .u8 0) 1 1 Tryz.underlying144 hi hz0 hz1 hz2 rfl (by decide) _ _ _ rfl (hown.alloc _) ⟨w1.heap.size, 0, none⟩ 1 1 [.int .u8 c] rfl rfl ?c1 ?c2 ?c3 ?c4 ?c5 ?_)
 case c1 =>
  intro j u hj
  match j, hj with
  | 0, hj => simp at hj; subst hj; simp [Addr.add]
 case c2 => intro u hu; simp at hu; subst hu; rfl
 case c3 => unfold maxLen; omega
 case c4 => omega
 case c5 => have := hb1.size; simp; omega
 intro v' w2 hown' hgrow _
 have hb2 := blk_grown (blk_alloc hbk _) hgrow (fun e => hne e.symm)
 have d1 : w2.cell? ⟨b, 1, none⟩ = some v := (blk_cell hb2 1).trans rfl
 have f1 := blk_frozen hb2 1
 obtain ⟨ao, cap, rfl⟩ := own_slice hown'
 have HO := am hown'
 have HB2 := am hb2
 clear hown' hb2
 go_wp2
 go_ret
 refine ⟨rfl, ?_, ?_⟩
 ·exact Lib.BuilderAt.put (T := 146) (e := 5) hB HB2.out (bs' := bs ++ [.int .u8 c]) (by simpa using HO.out) (by decide)
 ·exact ((hb1.alloc (by have := hb1.size; omega) _).grown hgrow (by have := hb1.size; simp; omega) (fun k hk => (hown.lt k hk).1)).setCell (p := ⟨b, 1, none⟩) hB _
theorem bld_new (W : World) (B : Nat) (hB : B ≤ W.heap.size) : Lib.IsBuilder 146 5 B W.heap.size [] (W.alloc (.cells #[.pointer none, .slice none 0 0] 146)) :=
 .inl ⟨hB, .slice none 0 0, blk_new W _, own_nil _ _ _ _, by simp [Value.ownBlock]⟩
theorem bld_move {B b : Nat} {bs : List Value} {w w1 : World} (h : Lib.IsBuilder 146 5 B b bs w) (hm : ∀ k, B ≤ k → w1.heap[k]? = w.heap[k]?) : Lib.IsBuilder 146 5 B b bs w1 := by
 have go : ∀ p, Lib.BuilderAt 146 5 B b p bs w → Lib.BuilderAt 146 5 B b p bs w1 := by
  rintro p ⟨hB, v, hb, ho, hn⟩
  exact ⟨hB, v, (hm b hB).trans hb, own_move ho (fun k hk => hm k (own_base ho k hk)), hn⟩
 exact h.elim (fun x => .inl (go _ x)) (fun x => .inr (go _ x))
theorem byteCells_snoc (l : List UInt8) (c : UInt8) : Lib.byteCells l ++ [.int .u8 (c.toNat : Int)] = Lib.byteCells (l ++ [c]) := by simp [Lib.byteCells]
theorem take_snoc_ (s : ByteArray) (k : Nat) (h : k < s.size) : s.data.toList.take (k + 1) = s.data.toList.take k ++ [s[k]'h] := by
 rw [List.take_succ_eq_append_getElem (by simpa using h)]; rfl
theorem bld_below {B b : Nat} {bs : List Value} {w w1 : World} (h : Lib.IsBuilder 146 5 B b bs w) (hb : Below w.heap.size w w1) : Lib.IsBuilder 146 5 B b bs w1 := by
 have go : ∀ p, Lib.BuilderAt 146 5 B b p bs w → Lib.BuilderAt 146 5 B b p bs w1 := by
  rintro p ⟨hB, v, hk, ho, hn⟩
  exact ⟨hB, v, blk_below hk hb, pw_own_below ho hb, hn⟩
 exact h.elim (fun x => .inl (go _ x)) (fun x => .inr (go _ x))
theorem strCells_S (l : List UInt8) : Lib.strCells ⟨l.toArray⟩ = Lib.byteCells l := by simp [Lib.strCells, Lib.byteCells]
theorem byteCells_app (a b : List UInt8) : Lib.byteCells a ++ Lib.byteCells b = Lib.byteCells (a ++ b) := by simp [Lib.byteCells]
theorem byteCells_len (a : List UInt8) : (Lib.byteCells a).length = a.length := by simp [Lib.byteCells]
end Go.Proofs.YtgcgglmmfgmaoaaGreat.PK
end
section
namespace Go.Proofs.YtgcgglmmfgmaoaaGreat.PK
open Go Go.RowKit Go.Proofs.YtgcgglmmfgmaoaaGreatW.PrintWords Go.Proofs.YtgcgglmmfgmaoaaGreatW.PrintLast Go.Proofs.YtgcgglmmfgmaoaaGreatW.PrintMore
attribute [local go_sem] max2_int min2_int max_two min_two
set_option maxRecDepth 100000
set_option maxHeartbeats 4000000
theorem bits_calls (n : Int) (m : Nat) (h0 : 0 < m) (hm : m ≤ 62) (w : World) :
  Calls Tryz.prog 95 #[.int .i64 n, .int .i64 m] w fun e w' => e = .returned (.string (S (bitL n m))) ∧ Below w.heap.size w w' :=
 sym_Bits.calls 70 n m _ w (sym_Bits_eq n m 70 h0 hm (Nat.le_refl _))
theorem item_raw (a b : Int) (w : World) :
  Calls Tryz.prog 96 #[.agg #[.int .i64 a, .int .i64 b]] w fun e w' => e = .returned (.string (S (bitL a 2 ++ bitL b 8))) ∧ Below w.heap.size w w' := by
 have K1 : Aside0 (∀ W : World, Calls Tryz.prog 95 #[.int .i64 a, .int .i64 2] W fun e w' => e = .returned (.string (S (bitL a 2))) ∧ Below W.heap.size W w') := ⟨fun W => bits_calls a 2 (by decide) (by decide) W⟩
 have K2 : Aside0 (∀ W : World, Calls Tryz.prog 95 #[.int .i64 b, .int .i64 8] W fun e w' => e = .returned (.string (S (bitL b 8))) ∧ Below W.heap.size W w') := ⟨fun W => bits_calls b 8 (by decide) (by decide) W⟩
 have HE : Aside0 (S (bitL a 2) ++ S (bitL b 8) = S (bitL a 2 ++ bitL b 8)) := ⟨S_append _ _⟩
 have q0 := show (S (bitL a 2)).size + (S (bitL b 8)).size ≤ 9223372036854775807 by rw [S_size, S_size, bitL_length, bitL_length]; omega
 have q1 := eq_true q0
 have q2 := eq_false (Nat.not_lt.2 q0)
 clear q0
 generalize S (bitL a 2 ++ bitL b 8) = r at *
 generalize S (bitL a 2) = x at *
 generalize S (bitL b 8) = y at *
 have hu := Tryz.underlying55
 have cc := cells2 (blk_new w (.cells #[.int .i64 a, .int .i64 b] 55))
 have HB := am (b_al w (.cells #[.int .i64 a, .int .i64 b] 55))
 go_enter Tryz.func96, Tryz.ntmps96
 go_upto_region 1 with (fail)
 generalize w.alloc (.cells #[.int .i64 a, .int .i64 b] 55) = W0 at *
 have HN := am (below_drew (Below.refl W0.heap.size W0))
 refine startB (n := 8) (F := fun _ => False) (ds := []) (by kernel_rfl) rfl (fun hHeld => ?_)
 refine plan_ [.p 0 3, .t 1 4, .p 3 6, .t 4 7] ?_
 repeat (first | refine jP ?_ | refine jW hHeld ?_ | refine jG ?_)
 refine planE ?_
 refine jO 2 (some 5) (fun K hK => ?_)
 refine kC Tryz.func95 #[.int .i64 a, .int .i64 2] ?_
 refine (K1.out _).mono ?_
 rintro e W2 ⟨rfl, hb⟩
 replace HN := am (b_tr HN.out hb)
 clear hb
 refine ⟨_, rfl, ?_⟩
 refine hK.out _ _ (Kp.of HN.out) (fun hHeld => ?_)
 clear hK K
 refine jM 5 ?_
 refine jO 5 (some 8) (fun K hK => ?_)
 refine kC Tryz.func95 #[.int .i64 b, .int .i64 8] ?_
 refine (K2.out _).mono ?_
 rintro e W3 ⟨rfl, hb⟩
 replace HN := am (b_tr HN.out hb)
 clear hb
 refine ⟨_, rfl, ?_⟩
 refine hK.out _ _ (Kp.of HN.out) (fun hHeld => ?_)
 clear hK K
 refine jM 8 ?_
 refine plan_ [.p 6 9, .p 7 2] ?_
 repeat (first | refine jP ?_ | refine jW hHeld ?_ | refine jG ?_)
 refine planE ?_
 refine done_ (by kernel_rfl) ?_
 go_wp2
 go_ret
 exact ⟨by first | rfl | (rw [← HE.out]; rfl), b_tr HB.out HN.out⟩
theorem wrap_calls (l : List UInt8) (h : isBits l) (hl : l.length ≤ 900) (w : World) :
  Calls Tryz.prog 97 #[.string (S l)] w fun e w' => e = .returned (.string (S (wrapL l ++ [35]))) ∧ Below w.heap.size w w' := by
 obtain ⟨sm, hsm⟩ : ∃ sm : Int, sm = (sumF l 65535 : Nat) := ⟨_, rfl⟩
 have KS := am (fun W => crc_Sum.calls (S l) _ W (crc_Sum_eq l h))
 rw [← hsm] at KS
 have KB : Aside0 (∀ W : World, Calls Tryz.prog 95 #[.int .i64 sm, .int .i64 16] W fun e w' => e = .returned (.string (S (bitL sm 16))) ∧ Below W.heap.size W w') := ⟨fun W => bits_calls sm 16 (by decide) (by decide) W⟩
 have HE : Aside0 (S l ++ S (bitL sm 16) ++ S [35] = S (wrapL l ++ [35])) := ⟨by rw [S_append, S_append, hsm]; rfl⟩
 have z1 := S_size l
 have z2 : (S (bitL sm 16)).size = 16 := by rw [S_size, bitL_length]
 have z3 : (S [35]).size = 1 := S_size _
 have z4 : (S l ++ S (bitL sm 16)).size = l.length + 16 := by rw [S_append, S_size, List.length_append, bitL_length]
 have z5 : (S l ++ S (bitL sm 16)).size + 1 ≤ 9223372036854775807 := by omega
 have z6 : (S l).size + (S (bitL sm 16)).size ≤ 9223372036854775807 := by omega
 have z7 : (S l).size + (S (bitL sm 16)).size + 1 ≤ 9223372036854775807 := by omega
 have q1 := eq_true z5
 have q2 := eq_false (Nat.not_lt.2 z5)
 have q3 := eq_true z6
 have q4 := eq_false (Nat.not_lt.2 z6)
 have q5 := eq_true z7
 have q6 := eq_false (Nat.not_lt.2 z7)
 clear z1 z2 z3 z4 z5 z6 z7
 generalize S l = x at *
 generalize S (bitL sm 16) = y at *
 clear h hl hsm
 generalize S (wrapL l ++ [35]) = r at *
 go_enter Tryz.func97, Tryz.ntmps97
 go_wp2_with (first
  | (go_at_call 120; refine (KS.out _).mono ?_; rintro e W ⟨rfl, hb⟩; have H1 := am hb; clear hb)
  | (go_at_call 95; refine (KB.out _).mono ?_; rintro e W2 ⟨rfl, hb⟩; have H2 := am (b_tr H1.out hb); clear hb))
 go_ret
 exact ⟨by first | rfl | (rw [← HE.out]; rfl), H2.out⟩
end Go.Proofs.YtgcgglmmfgmaoaaGreat.PK
end
section
namespace Go.Proofs.YtgcgglmmfgmaoaaGreat.PK
open Go Go.RowKit Go.Proofs.YtgcgglmmfgmaoaaGreatW.PrintWords Go.Proofs.YtgcgglmmfgmaoaaGreatW.PrintLast Go.Proofs.YtgcgglmmfgmaoaaGreatW.PrintMore
attribute [local go_sem] max2_int min2_int max_two min_two
def itemL (i : S55) : List UInt8 := bitL i.f0 2 ++ bitL i.f1 8
def echoL (l : List S55) : List UInt8 := l.flatMap itemL
def frameL (f : S117) : List UInt8 := bitL f.f0 2 ++ bitL f.f1 16 ++ bitL f.f2 6 ++ itemL f.f3 ++ echoL f.f4
def textL_ (f : S117) : List UInt8 := wrapL (frameL f) ++ [35]
theorem itemL_len (i : S55) : (itemL i).length = 10 := by unfold itemL; simp [bitL_length]
theorem itemL_bits (i : S55) : isBits (itemL i) := by
 intro c hc
 unfold itemL at hc
 rcases List.mem_append.1 hc with h | h
 ·exact bitL_bits _ _ c h
 ·exact bitL_bits _ _ c h
theorem echoL_len (l : List S55) : (echoL l).length = 10 * l.length := by
 induction l with
 | nil => rfl
 | cons x l ih => unfold echoL at ih ⊢; rw [List.flatMap_cons, List.length_append, ih, itemL_len, List.length_cons]; omega
theorem echoL_bits (l : List S55) : isBits (echoL l) := by
 intro c hc
 unfold echoL at hc
 obtain ⟨i, _, h⟩ := List.mem_flatMap.1 hc
 exact itemL_bits i c h
theorem frameL_len (f : S117) : (frameL f).length = 34 + 10 * f.f4.length := by
 unfold frameL; simp only [List.length_append, bitL_length, itemL_len, echoL_len]
theorem frameL_bits (f : S117) : isBits (frameL f) := by
 intro c hc
 unfold frameL at hc
 simp only [List.mem_append] at hc
 rcases hc with (((h | h) | h) | h) | h
 ·exact bitL_bits _ _ c h
 ·exact bitL_bits _ _ c h
 ·exact bitL_bits _ _ c h
 ·exact itemL_bits _ c h
 ·exact echoL_bits _ c h
theorem item_calls (i : S55) (w : World) :
  Calls Tryz.prog 96 #[.agg #[.int .i64 i.f0, .int .i64 i.f1]] w fun e w' => e = .returned (.string (S (itemL i))) ∧ Below w.heap.size w w' := by
 exact item_raw i.f0 i.f1 w
theorem frame_Text (cv : Array Value) (hcv : ∃ a b c d e f, cv = #[a, b, c, d, e, f]) (f : S117) (A : Option Addr) (m : Nat) (hl : f.f4.length ≤ 80) (w : World) (hr : Kd.C k55 w A f.f4.length f.f4) (hm : f.f4.length ≤ m) :
  Calls Tryz.prog 69 #[.agg cv, .agg #[.int .i64 f.f0, .int .i64 f.f1, .int .i64 f.f2, .int .i64 f.f3.f0, .int .i64 f.f3.f1, .slice A f.f4.length m]] w fun e w' => e = .returned (.string (S (textL_ f))) ∧ Below w.heap.size w w' := by
 obtain ⟨va, vb, vc, vd, ve, vf, rfl⟩ := hcv
 have hF : Aside0 (textL_ f = wrapL (bitL f.f0 2 ++ bitL f.f1 16 ++ bitL f.f2 6 ++ itemL f.f3 ++ echoL f.f4) ++ [35]) := ⟨rfl⟩
 have hQ1 := frameL_bits f
 have hQ2 := frameL_len f
 obtain ⟨fk, fr, fs, fp, fe⟩ := f
 obtain ⟨pk, pv⟩ := fp
 have K2 : ∀ W, Calls Tryz.prog 95 #[.int .i64 fk, .int .i64 2] W fun e w' => e = .returned (.string (S (bitL fk 2))) ∧ Below W.heap.size W w' := fun W => bits_calls fk 2 (by omega) (by omega) W
 have K16 : ∀ W, Calls Tryz.prog 95 #[.int .i64 fr, .int .i64 16] W fun e w' => e = .returned (.string (S (bitL fr 16))) ∧ Below W.heap.size W w' := fun W => bits_calls fr 16 (by omega) (by omega) W
 have K6 : ∀ W, Calls Tryz.prog 95 #[.int .i64 fs, .int .i64 6] W fun e w' => e = .returned (.string (S (bitL fs 6))) ∧ Below W.heap.size W w' := fun W => bits_calls fs 6 (by omega) (by omega) W
 have KI : ∀ W, Calls Tryz.prog 96 #[.agg #[.int .i64 pk, .int .i64 pv]] W fun e w' => e = .returned (.string (S (itemL ⟨pk, pv⟩))) ∧ Below W.heap.size W w' := fun W => item_calls ⟨pk, pv⟩ W
 have hs1 : (S (bitL fk 2)).size = 2 := by rw [S_size, bitL_length]
 have hs2 : (S (bitL fr 16)).size = 16 := by rw [S_size, bitL_length]
 have hs3 : (S (bitL fs 6)).size = 6 := by rw [S_size, bitL_length]
 have hs4 : (S (itemL ⟨pk, pv⟩)).size = 10 := by rw [S_size, itemL_len]
 have hcat : S (bitL fk 2) ++ S (bitL fr 16) ++ S (bitL fs 6) ++ S (itemL ⟨pk, pv⟩) = S (bitL fk 2 ++ bitL fr 16 ++ bitL fs 6 ++ itemL ⟨pk, pv⟩) := by rw [S_append, S_append, S_append]
 generalize S (bitL fk 2) = t1 at *
 generalize S (bitL fr 16) = t2 at *
 generalize S (bitL fs 6) = t3 at *
 generalize S (itemL ⟨pk, pv⟩) = t4 at *
 have e1 : decide (t1.size + t2.size ≤ 9223372036854775807) = true := decide_eq_true (by omega)
 have e2 : decide (t1.size + t2.size + t3.size ≤ 9223372036854775807) = true := decide_eq_true (by omega)
 have e3 : decide (t1.size + t2.size + t3.size + t4.size ≤ 9223372036854775807) = true := decide_eq_true (by omega)
 have l1 : t1.size + t2.size ≤ 9223372036854775807 := by omega
 have l2 : t1.size + t2.size + t3.size ≤ 9223372036854775807 := by omega
 have l3 : t1.size + t2.size + t3.size + t4.size ≤ 9223372036854775807 := by omega
 have b1 := eq_true l1
 have b2 := eq_true l2
 have b3 := eq_true l3
 have f1 : (9223372036854775807 < t1.size + t2.size) = False := eq_false (Nat.not_lt.2 l1)
 have f2 : (9223372036854775807 < t1.size + t2.size + t3.size) = False := eq_false (Nat.not_lt.2 l2)
 have f3 : (9223372036854775807 < t1.size + t2.size + t3.size + t4.size) = False := eq_false (Nat.not_lt.2 l3)
 have HS1 := am hs1
 have HS2 := am hs2
 have HS3 := am hs3
 have HS4 := am hs4
 have HCAT := am hcat
 clear hs1 hs2 hs3 hs4 hcat
 go_enter Tryz.func69, Tryz.ntmps69
 go_wp2
 have hz1 : (w.alloc (.cells #[va, vb, vc, vd, ve, vf] 24)).heap.size = w.heap.size + 1 := by simp
 have hz2 : ((w.alloc (.cells #[va, vb, vc, vd, ve, vf] 24)).alloc (.cells #[.int .i64 fk, .int .i64 fr, .int .i64 fs, .int .i64 pk, .int .i64 pv, .slice A fe.length m] 117)).heap.size = w.heap.size + 1 + 1 := by simp
 have hB0 := ((b_al w (.cells #[va, vb, vc, vd, ve, vf] 24)).alloc (by simp) (.cells #[.int .i64 fk, .int .i64 fr, .int .i64 fs, .int .i64 pk, .int .i64 pv, .slice A fe.length m] 117)).alloc (by simp; omega) (.cells #[.pointer none, .slice none 0 0] 146)
 have hG0 := blk_alloc (blk_new (w.alloc (.cells #[va, vb, vc, vd, ve, vf] 24)) (.cells #[.int .i64 fk, .int .i64 fr, .int .i64 fs, .int .i64 pk, .int .i64 pv, .slice A fe.length m] 117)) (.cells #[.pointer none, .slice none 0 0] 146)
 have hI0 := bld_new ((w.alloc (.cells #[va, vb, vc, vd, ve, vf] 24)).alloc (.cells #[.int .i64 fk, .int .i64 fr, .int .i64 fs, .int .i64 pk, .int .i64 pv, .slice A fe.length m] 117)) (w.heap.size + 1 + 1) (by simp)
 rw [hz1] at hG0
 rw [hz2] at hI0
 clear hz1 hz2
 generalize ((w.alloc (.cells #[va, vb, vc, vd, ve, vf] 24)).alloc (.cells #[.int .i64 fk, .int .i64 fr, .int .i64 fs, .int .i64 pk, .int .i64 pv, .slice A fe.length m] 117)).alloc (.cells #[.pointer none, .slice none 0 0] 146) = W0 at hB0 hG0 hI0 ⊢
 have hR0 := Kd.C_below hr hB0
 have c0 : W0.cell? ⟨w.heap.size + 1, 0, none⟩ = some (.int .i64 fk) := (blk_cell hG0 0).trans rfl
 have c1 : W0.cell? ⟨w.heap.size + 1, 1, none⟩ = some (.int .i64 fr) := (blk_cell hG0 1).trans rfl
 have c2 : W0.cell? ⟨w.heap.size + 1, 2, none⟩ = some (.int .i64 fs) := (blk_cell hG0 2).trans rfl
 have c3 : W0.cell? ⟨w.heap.size + 1, 3, none⟩ = some (.int .i64 pk) := (blk_cell hG0 3).trans rfl
 have c4 : W0.cell? ⟨w.heap.size + 1, 4, none⟩ = some (.int .i64 pv) := (blk_cell hG0 4).trans rfl
 have c5 : W0.cell? ⟨w.heap.size + 1, 5, none⟩ = some (.slice A fe.length m) := (blk_cell hG0 5).trans rfl
 have L0 := am hB0
 have L1 := am hG0
 have L2 := am hI0
 have L3 := am hR0
 have L4 := am (Below.refl W0.heap.size W0)
 have L5 := am (blk_lt hG0)
 clear hB0 hG0 hI0 hR0
 generalize hg : w.heap.size = g at *
 have L6 := am hg
 clear hg
 have LS : Aside0 (∀ w', Below W0.heap.size W0 w' → w'.cell? ⟨g + 1, 0, none⟩ = some (.int .i64 fk) ∧ w'.cell? ⟨g + 1, 1, none⟩ = some (.int .i64 fr) ∧ w'.cell? ⟨g + 1, 2, none⟩ = some (.int .i64 fs) ∧ w'.cell? ⟨g + 1, 3, none⟩ = some (.int .i64 pk) ∧ w'.cell? ⟨g + 1, 4, none⟩ = some (.int .i64 pv)) := ⟨fun w' hb => ⟨pw_cell_below hb c0, pw_cell_below hb c1, pw_cell_below hb c2, pw_cell_below hb c3, pw_cell_below hb c4⟩⟩
 have L7 : Aside0 (g + 1 + 1 < W0.heap.size) := ⟨L2.out.elim (fun h => h.lt) (fun h => h.lt)⟩
 let SS : World → Prop := fun w' => w'.cell? ⟨g + 1, 0, none⟩ = some (.int .i64 fk) ∧ w'.cell? ⟨g + 1, 1, none⟩ = some (.int .i64 fr) ∧ w'.cell? ⟨g + 1, 2, none⟩ = some (.int .i64 fs) ∧ w'.cell? ⟨g + 1, 3, none⟩ = some (.int .i64 pk) ∧ w'.cell? ⟨g + 1, 4, none⟩ = some (.int .i64 pv)
 have LK : Aside0 (∀ V W, Below W0.heap.size W0 V → Below (g + 1 + 1) V W → SS W) := ⟨fun V W h1 h2 => by
  obtain ⟨a0, a1, a2, a3, a4⟩ := LS.out V h1
  exact ⟨(h2.cell (p := ⟨g + 1, 0, none⟩) (Nat.lt_succ_self _)).trans a0, (h2.cell (p := ⟨g + 1, 1, none⟩) (Nat.lt_succ_self _)).trans a1, (h2.cell (p := ⟨g + 1, 2, none⟩) (Nat.lt_succ_self _)).trans a2, (h2.cell (p := ⟨g + 1, 3, none⟩) (Nat.lt_succ_self _)).trans a3, (h2.cell (p := ⟨g + 1, 4, none⟩) (Nat.lt_succ_self _)).trans a4⟩⟩
 have LB : Aside0 (∀ V W, Below W0.heap.size W0 V → Below (g + 1 + 1) V W → Below g w W) := ⟨fun V W h1 h2 => (L0.out.trans (h1.mono (by have := L0.out.size; have := L6.out; omega))).trans (h2.mono (by omega))⟩
 have LG : Aside0 (∀ V W, Below W0.heap.size W0 V → Below (g + 1 + 1) V W → W.heap[g + 1]? = some (.cells #[.int .i64 fk, .int .i64 fr, .int .i64 fs, .int .i64 pk, .int .i64 pv, .slice A fe.length m] 117 (0, 0))) := ⟨fun V W h1 h2 => (h2.block (g + 1) (Nat.lt_succ_self _)).trans (blk_below L1.out h1)⟩
 have HB := L4
 go_region_held3 (fun w' => w'.cell? ⟨g + 1, 0, none⟩ = some (.int .i64 fk) ∧ w'.cell? ⟨g + 1, 1, none⟩ = some (.int .i64 fr) ∧ w'.cell? ⟨g + 1, 2, none⟩ = some (.int .i64 fs) ∧ w'.cell? ⟨g + 1, 3, none⟩ = some (.int .i64 pk) ∧ w'.cell? ⟨g + 1, 4, none⟩ = some (.int .i64 pv)) (first | exact LS2.out | exact LS.out _ (by first | exact HB.out | exact below_drew HB.out | exact pw_below_drewN HB.out _) | go_keep)
  (first
   | (go_at_call 95; ((with_reducible refine (K2 _).mono ?_); rintro e W ⟨rfl, hb⟩; replace HB := am (b_tr (by first | exact HB.out | exact below_drew HB.out | exact pw_below_drewN HB.out _) hb); clear hb))
   | (go_at_call 95; ((with_reducible refine (K16 _).mono ?_); rintro e W ⟨rfl, hb⟩; replace HB := am (b_tr (by first | exact HB.out | exact below_drew HB.out | exact pw_below_drewN HB.out _) hb); clear hb))
   | (go_at_call 95; ((with_reducible refine (K6 _).mono ?_); rintro e W ⟨rfl, hb⟩; replace HB := am (b_tr (by first | exact HB.out | exact below_drew HB.out | exact pw_below_drewN HB.out _) hb); clear hb))
   | (go_at_call 96; ((with_reducible refine (KI _).mono ?_); rintro e W ⟨rfl, hb⟩; replace HB := am (b_tr (by first | exact HB.out | exact below_drew HB.out | exact pw_below_drewN HB.out _) hb); clear hb))
   | (go_at_call 94; refine (bld_WriteString (g + 1 + 1) (g + 1 + 1) (Lib.byteCells []) _ _ (bld_below L2.out (by first | exact HB.out | exact below_drew HB.out | exact pw_below_drewN HB.out _)) (by rw [HCAT.out, S_size]; simp [Lib.byteCells, bitL_length, itemL_len]) (by have := Below.size (by first | exact HB.out | exact below_drew HB.out | exact pw_below_drewN HB.out _); have := blk_lt (blk_below L1.out (by first | exact HB.out | exact below_drew HB.out | exact pw_below_drewN HB.out _)); have := L7.out; omega)).mono ?_; rintro e W ⟨rfl, hb1, hb2⟩; have LS2 : Aside0 (SS W) := ⟨LK.out _ _ (by first | exact HB.out | exact below_drew HB.out | exact pw_below_drewN HB.out _) hb2⟩; have B2 := am (LB.out _ _ (by first | exact HB.out | exact below_drew HB.out | exact pw_below_drewN HB.out _) hb2); have G2 := am (LG.out _ _ (by first | exact HB.out | exact below_drew HB.out | exact pw_below_drewN HB.out _) hb2); have I2 := am hb1; clear hb1 hb2))
 have c5 : W.cell? ⟨g + 1, 5, none⟩ = some (.slice A fe.length m) := (blk_cell G2.out 5).trans rfl
 have hI2 : IsB (g + 1 + 1) (g + 1 + 1) (bitL fk 2 ++ bitL fr 16 ++ bitL fs 6 ++ itemL ⟨pk, pv⟩ ++ echoL (fe.take 0)) W := by
  have := I2.out
  rw [HCAT.out, strCells_S, show Lib.byteCells [] = [] from rfl, List.nil_append] at this
  rw [show echoL (fe.take 0) = [] by simp [echoL], List.append_nil]
  exact .inr this
 have J2 := am hI2
 have hfl : fe.length ≤ 80 := hl
 have HR := am hr
 clear hI2 I2 LS2 LS LK LB LG L0 L1 L2 L3 HB L4 L5 L7 hr SS HCAT K2 K16 K6 KI
 go_wp2
 go_loopw [27] (fun i w' => ∃ k : Nat, i = .int .i64 k ∧ k ≤ fe.length ∧ Aside0 (IsB (g + 1 + 1) (g + 1 + 1) (bitL fk 2 ++ bitL fr 16 ++ bitL fs 6 ++ itemL ⟨pk, pv⟩ ++ echoL (fe.take k)) w') ∧ Aside0 (w'.heap[g + 1]? = some (.cells #[.int .i64 fk, .int .i64 fr, .int .i64 fs, .int .i64 pk, .int .i64 pv, .slice A fe.length m] 117 (0, 0))) ∧ Aside0 (Below g w w')) (fun i _ => fe.length - (intOf i).toNat)
 case atStart => exact ⟨0, rfl, by omega, J2, G2, B2⟩
 case round =>
  clear J2 G2 B2
  obtain ⟨k, rfl, hk, hJ, hG, hB⟩ := hrel
  by_cases hlt : k < fe.length
  ·have hp : (0 : Int) ≤ (k : Int) := Int.natCast_nonneg k
   have hq : (k : Int) < (fe.length : Int) := Int.ofNat_lt.2 hlt
   obtain ⟨ad, e, x0, x1⟩ := at_T55 HR.out (k : Int) hp hq
   subst e
   rw [Int.toNat_natCast] at x0 x1
   have hBw : Below w.heap.size w wr := by have := hB.out; rw [L6.out]; exact this
   replace x0 := pw_cell_below hBw x0
   replace x1 := pw_cell_below hBw x1
   have hrd : rd_T55 fe (k : Int) = fe[k] := by
    unfold rd_T55
    simp [List.getD_eq_getElem?_getD, List.getElem?_eq_getElem hlt]
   rw [hrd] at x0 x1
   have htk : echoL (fe.take (k + 1)) = echoL (fe.take k) ++ itemL fe[k] := by
    unfold echoL
    rw [List.take_succ_eq_append_getElem hlt, List.flatMap_append]; simp
   have HT := am htk
   have KI := fun W => item_calls fe[k] W
   have hln : (echoL (fe.take k)).length ≤ 800 := by rw [echoL_len, List.length_take]; omega
   have HLN := am hln
   have hlt2 : g + 1 + 1 < wr.heap.size := hJ.out.elim (fun h => h.lt) (fun h => h.lt)
   clear htk hrd hln hBw
   generalize fe[k] = x at *
   have HB := am (Below.refl wr.heap.size wr)
   obtain ⟨x0v, x1v⟩ := x
   simp only at x0 x1 KI
   go_wp2_with (first
    | (go_at_call 96; ((with_reducible refine (KI _).mono ?_); rintro e W1 ⟨rfl, hb⟩; have hb1 := am (b_tr (b_al wr _) hb); clear hb))
    | (go_at_call 94; refine (bld_WriteString (g + 1 + 1) (g + 1 + 1) _ _ _ (bld_below hJ.out hb1.out) (by rw [byteCells_len, S_size, itemL_len]; simp only [List.length_append, bitL_length, itemL_len]; have := HLN.out; omega) (by have := hb1.out.size; omega)).mono ?_; rintro e W2 ⟨rfl, hb2, hb3⟩; have I2 := am hb2; have B3 := am hb3; clear hb2 hb3))
   have hJ2 : IsB (g + 1 + 1) (g + 1 + 1) (bitL fk 2 ++ bitL fr 16 ++ bitL fs 6 ++ itemL ⟨pk, pv⟩ ++ echoL (fe.take (k + 1))) W2 := by
    have := I2.out
    rw [strCells_S, byteCells_app] at this
    rw [HT.out, ← List.append_assoc]
    exact .inr this
   have hG2 := am ((B3.out.block (g + 1) (Nat.lt_succ_self _)).trans (blk_below hG.out hb1.out))
   have hB2 := am ((hB.out.trans (hb1.out.mono (by omega))).trans (B3.out.mono (by omega)))
   have hJ3 := am hJ2
   clear hJ2 I2 B3 hb1 hJ hG hB HB
   go_roundw
   case rel => exact ⟨k + 1, by simp, by omega, hJ3, hG2, hB2⟩
   case measure => simp [intOf]; omega
  ·obtain rfl : k = fe.length := by omega
   have hJ2 := hJ.out
   rw [List.take_length] at hJ2
   have hlt2 : g + 1 + 1 < wr.heap.size := hJ2.elim (fun h => h.lt) (fun h => h.lt)
   have KB := Tryz.Builder_String_any (g + 1 + 1) (g + 1 + 1) _ wr hJ2 (by omega)
   have KW := fun W => wrap_calls _ hQ1 (by rw [hQ2]; show 34 + 10 * fe.length ≤ 900; omega) W
   have K1 := am KB
   have K2 := am KW
   have HFF := am (congrArg S hF.out)
   clear hF
   clear KB KW hJ2 hQ1 hQ2
   have hz : frameL ⟨fk, fr, fs, ⟨pk, pv⟩, fe⟩ = bitL fk 2 ++ bitL fr 16 ++ bitL fs 6 ++ itemL ⟨pk, pv⟩ ++ echoL fe := rfl
   rw [hz] at K2
   clear hz
   generalize bitL fk 2 ++ bitL fr 16 ++ bitL fs 6 ++ itemL ⟨pk, pv⟩ ++ echoL fe = z at *
   go_wp2_with (first
    | (go_at_call 98; ((refine (K1.out).mono ?_); rintro e W1 ⟨rfl, hb⟩; have hb1 := am hb; clear hb))
    | (go_at_call 97; ((refine (K2.out _).mono ?_); rintro e W2 ⟨rfl, hb⟩; have hb2 := am hb; clear hb)))
   go_ret
   refine ⟨congrArg (fun x => Ending.returned (.string x)) HFF.out.symm, ?_⟩
   have q1 := hB.out.trans (hb1.out.mono (by omega))
   have q2 : Below g w W2 := (show Below g w W1 from q1).trans (hb2.out.mono (by have := q1.size; have := L6.out; omega))
   rw [L6.out]
   exact q2
end Go.Proofs.YtgcgglmmfgmaoaaGreat.PK
end
section
namespace Go.Proofs.YtgcgglmmfgmaoaaGreat.PK
open Go Go.RowKit Go.Proofs.YtgcgglmmfgmaoaaGreatW.PrintWords Go.Proofs.YtgcgglmmfgmaoaaGreatW.PrintLast Go.Proofs.YtgcgglmmfgmaoaaGreatW.PrintMore
attribute [local go_sem] max2_int min2_int max_two min_two
def valB (i : S55) : Bool := (i.f0 == 1 && i.f1 == 0) || (i.f0 == 2 && (decide (0 ≤ i.f1) && decide (i.f1 ≤ 255)))
def empB (i : S55) : Bool := i.f0 == 0 && (i.f1 == 0)
theorem value_calls (i : S55) (w : World) : Calls Tryz.prog 166 #[.agg #[.int .i64 i.f0, .int .i64 i.f1]] w fun e w' => e = .returned (.bool (valB i)) ∧ Below w.heap.size w w' := by
 exact value_raw i.f0 i.f1 w
theorem empty_calls (i : S55) (w : World) : Calls Tryz.prog 165 #[.agg #[.int .i64 i.f0, .int .i64 i.f1]] w fun e w' => e = .returned (.bool (empB i)) ∧ Below w.heap.size w w' :=
 empty_raw i.f0 i.f1 w
def badB (i : S55) : Bool := !empB i && !valB i
theorem bad_calls (i : S55) (w : World) : Calls Tryz.prog 168 (#[.agg #[.int .i64 i.f0, .int .i64 i.f1]] ++ #[]) w fun e w' => e = .returned (.bool (badB i)) ∧ Below w.heap.size w w' := by
 have KE := fun W => empty_calls i W
 have KV := fun W => value_calls i W
 have HE : Aside0 (badB i = (!empB i && !valB i)) := ⟨rfl⟩
 obtain ⟨i0, i1⟩ := i
 show Calls Tryz.prog 168 #[.agg #[.int .i64 i0, .int .i64 i1]] w _
 simp only at KE KV
 generalize empB ⟨i0, i1⟩ = be at *
 generalize valB ⟨i0, i1⟩ = bv at *
 generalize badB ⟨i0, i1⟩ = bb at *
 have c0 := cell_new w #[.int .i64 i0, .int .i64 i1] 55 0 _ rfl
 have c1 := cell_new w #[.int .i64 i0, .int .i64 i1] 55 1 _ rfl
 have HB := am (Below.refl (w.alloc (.cells #[.int .i64 i0, .int .i64 i1] 55)).heap.size (w.alloc (.cells #[.int .i64 i0, .int .i64 i1] 55)))
 have hu := Tryz.underlying55
 cases be with
 | true =>
  go_enter Tryz.func168, Tryz.ntmps168
  go_wp2_with (go_at_call 165; ((with_reducible refine (KE _).mono ?_); rintro e W ⟨rfl, hb⟩; have n_ := am (b_ac hb); clear hb))
  go_ret
  exact ⟨ret_b _ _ (by rw [HE.out]; rfl), n_.out⟩
 | false =>
  go_enter Tryz.func168, Tryz.ntmps168
  go_wp2_with (first
   | (go_at_call 165; ((with_reducible refine (KE _).mono ?_); rintro e W ⟨rfl, hb⟩; have n_ := am hb; have d0 := pw_cell_below hb c0; have d1 := pw_cell_below hb c1; clear hb))
   | (go_at_call 166; ((with_reducible refine (KV _).mono ?_); rintro e W2 ⟨rfl, hb⟩; have n2_ := am hb; clear hb)))
  go_ret
  exact ⟨ret_b _ _ (by rw [HE.out]; cases bv <;> rfl), b_tr (b_ac n_.out) n2_.out⟩
def frEchoes (c : Cf) (kind slot : Int) : Int := if kind = 3 ∧ slot < c.n then c.slots else 0
theorem echoes_calls (c : Cf) (hc : c.OK) (kind slot : Int) (A : Option Addr) (m : Nat) (w : World) (hr : c.C w A m) :
  Calls Tryz.prog 155 #[c.v A m, .int .i64 kind, .int .i64 slot] w fun e w' => e = .returned (.int .i64 (frEchoes c kind slot)) ∧ Below w.heap.size w w' := by
 exact echoes_raw c hc kind slot A m w hr
def frErr (c : Cf) (f : S117) : Int :=
 if c.slots ≤ f.f2 then 1
 else if f.f0 = 0 ∨ (c.n ≤ f.f2 ∧ f.f0 ≠ 3) then 6
 else if (if f.f0 = 3 then valB f.f3 else empB f.f3) = false then 1
 else if (f.f4.length : Int) ≠ frEchoes c f.f0 f.f2 then 2
 else if f.f4.any badB = true then 1
 else 0
theorem fcheck0 (c : Cf) (hc : c.OK) (fs fr p0 p1 : Int) (fe : List S55) (h0 : 0 ≤ fs) (h1 : fs ≤ 63) (h2 : 0 ≤ fr) (h3 : fr ≤ 65535) (hl : fe.length ≤ 1000) (A AE : Option Addr) (m me : Nat) (w : World) (hr : c.C w A m) (he : Kd.C k55 w AE fe.length fe) :
  Calls Tryz.prog 156 #[c.v A m, .agg #[.int .i64 (0), .int .i64 fr, .int .i64 fs, .int .i64 p0, .int .i64 p1, .slice AE fe.length me]] w fun e w' => e = .returned (.int .i64 (frErr c ⟨0, fr, fs, ⟨p0, p1⟩, fe⟩)) ∧ Below w.heap.size w w' := by
 have KS := fun W h => slots_calls c hc A m W h
 have KE := fun W h => echoes_calls c hc (0) fs A m W h
 have KP := fun W => empty_calls ⟨p0, p1⟩ W
 have HF : Aside0 (frErr c ⟨0, fr, fs, ⟨p0, p1⟩, fe⟩ = if c.slots ≤ fs then 1 else if (0 : Int) = 0 ∨ (c.n ≤ fs ∧ (0 : Int) ≠ 3) then 6 else if empB ⟨p0, p1⟩ = false then 1 else if (fe.length : Int) ≠ frEchoes c (0) fs then 2 else if fe.any badB = true then 1 else 0) := ⟨rfl⟩
 have d1 : decide (fs < 0) = false := decide_eq_false (by omega)
 have d2 : decide (fr < 0) = false := decide_eq_false (by omega)
 have d3 : decide (65535 < fr) = false := decide_eq_false (by omega)
 have hC := am hr
 have hE := am he
 generalize hq : frErr c ⟨0, fr, fs, ⟨p0, p1⟩, fe⟩ = er at *
 clear hr he hq
 go_enter Tryz.func156, Tryz.ntmps156
 go_wp2
 have hz1 : (w.alloc (.cells #[.int .i64 c.n, .int .i64 c.pi, .int .i64 c.e, .int .i64 c.g, .int .i64 c.first, .slice A c.pairs.length m] 24)).heap.size = w.heap.size + 1 := by simp
 have hG0 := blk_alloc (blk_new w (.cells #[.int .i64 c.n, .int .i64 c.pi, .int .i64 c.e, .int .i64 c.g, .int .i64 c.first, .slice A c.pairs.length m] 24)) (.cells #[.int .i64 (0), .int .i64 fr, .int .i64 fs, .int .i64 p0, .int .i64 p1, .slice AE fe.length me] 117)
 have hG1 := blk_new (w.alloc (.cells #[.int .i64 c.n, .int .i64 c.pi, .int .i64 c.e, .int .i64 c.g, .int .i64 c.first, .slice A c.pairs.length m] 24)) (.cells #[.int .i64 (0), .int .i64 fr, .int .i64 fs, .int .i64 p0, .int .i64 p1, .slice AE fe.length me] 117)
 have hB0 := (b_al w (.cells #[.int .i64 c.n, .int .i64 c.pi, .int .i64 c.e, .int .i64 c.g, .int .i64 c.first, .slice A c.pairs.length m] 24)).alloc (by simp) (.cells #[.int .i64 (0), .int .i64 fr, .int .i64 fs, .int .i64 p0, .int .i64 p1, .slice AE fe.length me] 117)
 rw [hz1] at hG1
 clear hz1
 generalize (w.alloc (.cells #[.int .i64 c.n, .int .i64 c.pi, .int .i64 c.e, .int .i64 c.g, .int .i64 c.first, .slice A c.pairs.length m] 24)).alloc (.cells #[.int .i64 (0), .int .i64 fr, .int .i64 fs, .int .i64 p0, .int .i64 p1, .slice AE fe.length me] 117) = W0 at hG0 hG1 hB0 ⊢
 have hC := am (hC.out.below hB0)
 have hE := am (Kd.C_below hE.out hB0)
 generalize hg : w.heap.size = g at *
 have HG := am hg
 clear hg
 have LS : Aside0 (∀ w', Below W0.heap.size W0 w' → (fun w' => w'.cell? ⟨g + 1, 2, none⟩ = some (.int .i64 fs) ∧ w'.cell? ⟨g + 1, 1, none⟩ = some (.int .i64 fr) ∧ w'.cell? ⟨g, 0, none⟩ = some (.int .i64 c.n) ∧ w'.cell? ⟨g, 1, none⟩ = some (.int .i64 c.pi) ∧ w'.cell? ⟨g, 2, none⟩ = some (.int .i64 c.e) ∧ w'.cell? ⟨g, 3, none⟩ = some (.int .i64 c.g) ∧ w'.cell? ⟨g, 4, none⟩ = some (.int .i64 c.first) ∧ w'.cell? ⟨g, 5, none⟩ = some (.slice A c.pairs.length m) ∧ w'.cell? ⟨g + 1, 0, none⟩ = some (.int .i64 (0)) ∧ w'.cell? ⟨g + 1, 5, none⟩ = some (.slice AE fe.length me)) w') := ⟨fun w' hb => ⟨(blk_cell (blk_below hG1 hb) 2).trans rfl, (blk_cell (blk_below hG1 hb) 1).trans rfl, (blk_cell (blk_below hG0 hb) 0).trans rfl, (blk_cell (blk_below hG0 hb) 1).trans rfl, (blk_cell (blk_below hG0 hb) 2).trans rfl, (blk_cell (blk_below hG0 hb) 3).trans rfl, (blk_cell (blk_below hG0 hb) 4).trans rfl, (blk_cell (blk_below hG0 hb) 5).trans rfl, (blk_cell (blk_below hG1 hb) 0).trans rfl, (blk_cell (blk_below hG1 hb) 5).trans rfl⟩⟩
 have LG : Aside0 (∀ w', Below W0.heap.size W0 w' → w'.heap[g + 1]? = some (.cells #[.int .i64 (0), .int .i64 fr, .int .i64 fs, .int .i64 p0, .int .i64 p1, .slice AE fe.length me] 117 (0, 0)) ∧ w'.heap[g]? = some (.cells #[.int .i64 c.n, .int .i64 c.pi, .int .i64 c.e, .int .i64 c.g, .int .i64 c.first, .slice A c.pairs.length m] 24 (0, 0))) := ⟨fun w' hb => ⟨blk_below hG1 hb, blk_below hG0 hb⟩⟩
 have L0 := am hB0
 have HB := am (Below.refl W0.heap.size W0)
 clear hB0 hG0 hG1
 have hS0 := LS.out W0.drew (below_drew (Below.refl _ _))
 by_cases hs : c.slots ≤ fs
 ·have b1 : decide (c.slots ≤ fs) = true := decide_eq_true hs
  have hv : er = 1 := by rw [HF.out, if_pos hs]
  subst hv
  clear hs HF
  refine start_ (n := 21) (S := fun w' => w'.cell? ⟨g + 1, 2, none⟩ = some (.int .i64 fs) ∧ w'.cell? ⟨g + 1, 1, none⟩ = some (.int .i64 fr) ∧ w'.cell? ⟨g, 0, none⟩ = some (.int .i64 c.n) ∧ w'.cell? ⟨g, 1, none⟩ = some (.int .i64 c.pi) ∧ w'.cell? ⟨g, 2, none⟩ = some (.int .i64 c.e) ∧ w'.cell? ⟨g, 3, none⟩ = some (.int .i64 c.g) ∧ w'.cell? ⟨g, 4, none⟩ = some (.int .i64 c.first) ∧ w'.cell? ⟨g, 5, none⟩ = some (.slice A c.pairs.length m) ∧ w'.cell? ⟨g + 1, 0, none⟩ = some (.int .i64 (0)) ∧ w'.cell? ⟨g + 1, 5, none⟩ = some (.slice AE fe.length me)) (ds := []) #[false, false, false, false, false, false, false, false, false, false, false, false, false, false, false, false, false, false, false, false, false] (by kernel_rfl) rfl rfl ?st0 (fun hHeld => ?_)
  case st0 => exact hS0
  refine plan_ [.p 0 10, .t 1 11, .p 2 12, .p 3 13, .p 4 14, .t 5 15, .t 6 16] ?_
  repeat (first | refine kP ?_ | refine kT hHeld ?_ | refine kG ?_)
  refine planE ?_
  refine jO 7 (some 17) (fun K hK => ?_)
  refine kC Tryz.func41 #[c.v A m] ?_
  with_reducible refine (KS _ (hC.out.below (by first | exact HB.out | exact below_drew HB.out | exact pw_below_drewN HB.out _))).mono ?_
  rintro e W ⟨rfl, hb⟩
  replace HB := am (b_tr (by first | exact HB.out | exact below_drew HB.out | exact pw_below_drewN HB.out _) hb)
  clear hb
  refine ⟨_, rfl, ?_⟩
  refine hK.out _ _ (LS.out _ HB.out) (fun hHeld => ?_)
  clear hK K
  refine kN ?_
  refine plan_ [.p 8 18, .p 9 19, .p 10 20, .g 11 21, .g 12 22, .g 13 23, .p 14 24, .p 15 25, .g 16 26, .g 17 27, .g 18 28, .p 19 29, .p 20 9] ?_
  repeat (first | refine kP ?_ | refine kT hHeld ?_ | refine kG ?_)
  refine planE ?_
  refine done_ (by kernel_rfl) ?_
  go_wp2
  have hfin : Below w.heap.size w _ := b_tr (show Below w.heap.size w W0 from by rw [HG.out]; exact L0.out) HB.out
  go_ret
  exact ⟨rfl, hfin⟩
 ·have b1 : decide (c.slots ≤ fs) = false := decide_eq_false hs
  rw [if_neg hs] at HF
  clear hs
  refine start_ (n := 21) (S := fun w' => w'.cell? ⟨g + 1, 2, none⟩ = some (.int .i64 fs) ∧ w'.cell? ⟨g + 1, 1, none⟩ = some (.int .i64 fr) ∧ w'.cell? ⟨g, 0, none⟩ = some (.int .i64 c.n) ∧ w'.cell? ⟨g, 1, none⟩ = some (.int .i64 c.pi) ∧ w'.cell? ⟨g, 2, none⟩ = some (.int .i64 c.e) ∧ w'.cell? ⟨g, 3, none⟩ = some (.int .i64 c.g) ∧ w'.cell? ⟨g, 4, none⟩ = some (.int .i64 c.first) ∧ w'.cell? ⟨g, 5, none⟩ = some (.slice A c.pairs.length m) ∧ w'.cell? ⟨g + 1, 0, none⟩ = some (.int .i64 (0)) ∧ w'.cell? ⟨g + 1, 5, none⟩ = some (.slice AE fe.length me)) (ds := []) #[false, false, false, false, false, false, false, false, false, false, false, false, false, false, false, false, false, false, false, false, false] (by kernel_rfl) rfl rfl ?st0 (fun hHeld => ?_)
  case st0 => exact hS0
  refine plan_ [.p 0 10, .t 1 11, .p 2 12, .p 3 13, .p 4 14, .t 5 15, .t 6 16] ?_
  repeat (first | refine kP ?_ | refine kT hHeld ?_ | refine kG ?_)
  refine planE ?_
  refine jO 7 (some 17) (fun K hK => ?_)
  refine kC Tryz.func41 #[c.v A m] ?_
  with_reducible refine (KS _ (hC.out.below (by first | exact HB.out | exact below_drew HB.out | exact pw_below_drewN HB.out _))).mono ?_
  rintro e W ⟨rfl, hb⟩
  replace HB := am (b_tr (by first | exact HB.out | exact below_drew HB.out | exact pw_below_drewN HB.out _) hb)
  clear hb
  refine ⟨_, rfl, ?_⟩
  refine hK.out _ _ (LS.out _ HB.out) (fun hHeld => ?_)
  clear hK K
  refine kN ?_
  refine plan_ [.p 8 18, .p 9 19, .p 10 20, .p 11 21, .t 12 22, .p 13 23, .p 14 24, .p 15 25, .p 16 26, .t 17 27, .p 18 28, .p 19 29, .p 20 9] ?_
  repeat (first | refine kP ?_ | refine kT hHeld ?_ | refine kG ?_)
  refine planE ?_
  refine done_ (by kernel_rfl) ?_
  obtain ⟨e1, e0⟩ := LG.out W HB.out
  have x0 : W.cell? ⟨g + 1, 0, none⟩ = some (.int .i64 (0)) := (blk_cell e1 0).trans rfl
  have x2 : W.cell? ⟨g + 1, 2, none⟩ = some (.int .i64 fs) := (blk_cell e1 2).trans rfl
  have x3 : W.cell? ⟨g + 1, 3, none⟩ = some (.int .i64 p0) := (blk_cell e1 3).trans rfl
  have x4 : W.cell? ⟨g + 1, 4, none⟩ = some (.int .i64 p1) := (blk_cell e1 4).trans rfl
  have y0 : W.cell? ⟨g, 0, none⟩ = some (.int .i64 c.n) := (blk_cell e0 0).trans rfl
  clear e1 e0
  have hv : er = 6 := by rw [HF.out]; simp
  subst hv
  clear HF
  go_wp2
  have hfin : Below w.heap.size w _ := b_tr (show Below w.heap.size w W0 from by rw [HG.out]; exact L0.out) HB.out
  go_ret
  exact ⟨rfl, hfin⟩
theorem fcheck1 (c : Cf) (hc : c.OK) (fk : Int) (hk : fk = 1 ∨ fk = 2) (fs fr p0 p1 : Int) (fe : List S55) (h0 : 0 ≤ fs) (h1 : fs ≤ 63) (h2 : 0 ≤ fr) (h3 : fr ≤ 65535) (hl : fe.length ≤ 1000) (A AE : Option Addr) (m me : Nat) (w : World) (hr : c.C w A m) (he : Kd.C k55 w AE fe.length fe) :
  Calls Tryz.prog 156 #[c.v A m, .agg #[.int .i64 (fk), .int .i64 fr, .int .i64 fs, .int .i64 p0, .int .i64 p1, .slice AE fe.length me]] w fun e w' => e = .returned (.int .i64 (frErr c ⟨fk, fr, fs, ⟨p0, p1⟩, fe⟩)) ∧ Below w.heap.size w w' := by
 have f0 : (fk == 0) = false := beq_eq_false_iff_ne.2 (by omega)
 have f3 : (fk == 3) = false := beq_eq_false_iff_ne.2 (by omega)
 have f4 : (fk != 3) = true := bne_iff_ne.2 (by omega)
 have f5 : (fk != 0) = true := bne_iff_ne.2 (by omega)
 have f6 : decide (fk < 1) = false := decide_eq_false (by omega)
 have f7 : decide (3 < fk) = false := decide_eq_false (by omega)
 have g0 : ¬ fk = 0 := by omega
 have g3 : ¬ fk = 3 := by omega
 clear hk
 have KS := fun W h => slots_calls c hc A m W h
 have KE := fun W h => echoes_calls c hc (fk) fs A m W h
 have KP := fun W => empty_calls ⟨p0, p1⟩ W
 have HF : Aside0 (frErr c ⟨fk, fr, fs, ⟨p0, p1⟩, fe⟩ = if c.slots ≤ fs then 1 else if (fk : Int) = 0 ∨ (c.n ≤ fs ∧ (fk : Int) ≠ 3) then 6 else if empB ⟨p0, p1⟩ = false then 1 else if (fe.length : Int) ≠ frEchoes c (fk) fs then 2 else if fe.any badB = true then 1 else 0) := ⟨by unfold frErr; simp only [if_neg g3]⟩
 have d1 : decide (fs < 0) = false := decide_eq_false (by omega)
 have d2 : decide (fr < 0) = false := decide_eq_false (by omega)
 have d3 : decide (65535 < fr) = false := decide_eq_false (by omega)
 have hC := am hr
 have hE := am he
 generalize hq : frErr c ⟨fk, fr, fs, ⟨p0, p1⟩, fe⟩ = er at *
 clear hr he hq
 go_enter Tryz.func156, Tryz.ntmps156
 go_wp2
 have hz1 : (w.alloc (.cells #[.int .i64 c.n, .int .i64 c.pi, .int .i64 c.e, .int .i64 c.g, .int .i64 c.first, .slice A c.pairs.length m] 24)).heap.size = w.heap.size + 1 := by simp
 have hG0 := blk_alloc (blk_new w (.cells #[.int .i64 c.n, .int .i64 c.pi, .int .i64 c.e, .int .i64 c.g, .int .i64 c.first, .slice A c.pairs.length m] 24)) (.cells #[.int .i64 (fk), .int .i64 fr, .int .i64 fs, .int .i64 p0, .int .i64 p1, .slice AE fe.length me] 117)
 have hG1 := blk_new (w.alloc (.cells #[.int .i64 c.n, .int .i64 c.pi, .int .i64 c.e, .int .i64 c.g, .int .i64 c.first, .slice A c.pairs.length m] 24)) (.cells #[.int .i64 (fk), .int .i64 fr, .int .i64 fs, .int .i64 p0, .int .i64 p1, .slice AE fe.length me] 117)
 have hB0 := (b_al w (.cells #[.int .i64 c.n, .int .i64 c.pi, .int .i64 c.e, .int .i64 c.g, .int .i64 c.first, .slice A c.pairs.length m] 24)).alloc (by simp) (.cells #[.int .i64 (fk), .int .i64 fr, .int .i64 fs, .int .i64 p0, .int .i64 p1, .slice AE fe.length me] 117)
 rw [hz1] at hG1
 clear hz1
 generalize (w.alloc (.cells #[.int .i64 c.n, .int .i64 c.pi, .int .i64 c.e, .int .i64 c.g, .int .i64 c.first, .slice A c.pairs.length m] 24)).alloc (.cells #[.int .i64 (fk), .int .i64 fr, .int .i64 fs, .int .i64 p0, .int .i64 p1, .slice AE fe.length me] 117) = W0 at hG0 hG1 hB0 ⊢
 have hC := am (hC.out.below hB0)
 have hE := am (Kd.C_below hE.out hB0)
 generalize hg : w.heap.size = g at *
 have HG := am hg
 clear hg
 have LS : Aside0 (∀ w', Below W0.heap.size W0 w' → (fun w' => w'.cell? ⟨g + 1, 2, none⟩ = some (.int .i64 fs) ∧ w'.cell? ⟨g + 1, 1, none⟩ = some (.int .i64 fr) ∧ w'.cell? ⟨g, 0, none⟩ = some (.int .i64 c.n) ∧ w'.cell? ⟨g, 1, none⟩ = some (.int .i64 c.pi) ∧ w'.cell? ⟨g, 2, none⟩ = some (.int .i64 c.e) ∧ w'.cell? ⟨g, 3, none⟩ = some (.int .i64 c.g) ∧ w'.cell? ⟨g, 4, none⟩ = some (.int .i64 c.first) ∧ w'.cell? ⟨g, 5, none⟩ = some (.slice A c.pairs.length m) ∧ w'.cell? ⟨g + 1, 0, none⟩ = some (.int .i64 (fk)) ∧ w'.cell? ⟨g + 1, 5, none⟩ = some (.slice AE fe.length me)) w') := ⟨fun w' hb => ⟨(blk_cell (blk_below hG1 hb) 2).trans rfl, (blk_cell (blk_below hG1 hb) 1).trans rfl, (blk_cell (blk_below hG0 hb) 0).trans rfl, (blk_cell (blk_below hG0 hb) 1).trans rfl, (blk_cell (blk_below hG0 hb) 2).trans rfl, (blk_cell (blk_below hG0 hb) 3).trans rfl, (blk_cell (blk_below hG0 hb) 4).trans rfl, (blk_cell (blk_below hG0 hb) 5).trans rfl, (blk_cell (blk_below hG1 hb) 0).trans rfl, (blk_cell (blk_below hG1 hb) 5).trans rfl⟩⟩
 have LG : Aside0 (∀ w', Below W0.heap.size W0 w' → w'.heap[g + 1]? = some (.cells #[.int .i64 (fk), .int .i64 fr, .int .i64 fs, .int .i64 p0, .int .i64 p1, .slice AE fe.length me] 117 (0, 0)) ∧ w'.heap[g]? = some (.cells #[.int .i64 c.n, .int .i64 c.pi, .int .i64 c.e, .int .i64 c.g, .int .i64 c.first, .slice A c.pairs.length m] 24 (0, 0))) := ⟨fun w' hb => ⟨blk_below hG1 hb, blk_below hG0 hb⟩⟩
 have L0 := am hB0
 have HB := am (Below.refl W0.heap.size W0)
 clear hB0 hG0 hG1
 have hS0 := LS.out W0.drew (below_drew (Below.refl _ _))
 by_cases hs : c.slots ≤ fs
 ·have b1 : decide (c.slots ≤ fs) = true := decide_eq_true hs
  have hv : er = 1 := by rw [HF.out, if_pos hs]
  subst hv
  clear hs HF
  refine start_ (n := 21) (S := fun w' => w'.cell? ⟨g + 1, 2, none⟩ = some (.int .i64 fs) ∧ w'.cell? ⟨g + 1, 1, none⟩ = some (.int .i64 fr) ∧ w'.cell? ⟨g, 0, none⟩ = some (.int .i64 c.n) ∧ w'.cell? ⟨g, 1, none⟩ = some (.int .i64 c.pi) ∧ w'.cell? ⟨g, 2, none⟩ = some (.int .i64 c.e) ∧ w'.cell? ⟨g, 3, none⟩ = some (.int .i64 c.g) ∧ w'.cell? ⟨g, 4, none⟩ = some (.int .i64 c.first) ∧ w'.cell? ⟨g, 5, none⟩ = some (.slice A c.pairs.length m) ∧ w'.cell? ⟨g + 1, 0, none⟩ = some (.int .i64 (fk)) ∧ w'.cell? ⟨g + 1, 5, none⟩ = some (.slice AE fe.length me)) (ds := []) #[false, false, false, false, false, false, false, false, false, false, false, false, false, false, false, false, false, false, false, false, false] (by kernel_rfl) rfl rfl ?st0 (fun hHeld => ?_)
  case st0 => exact hS0
  refine plan_ [.p 0 10, .t 1 11, .p 2 12, .p 3 13, .p 4 14, .t 5 15, .t 6 16] ?_
  repeat (first | refine kP ?_ | refine kT hHeld ?_ | refine kG ?_)
  refine planE ?_
  refine jO 7 (some 17) (fun K hK => ?_)
  refine kC Tryz.func41 #[c.v A m] ?_
  with_reducible refine (KS _ (hC.out.below (by first | exact HB.out | exact below_drew HB.out | exact pw_below_drewN HB.out _))).mono ?_
  rintro e W ⟨rfl, hb⟩
  replace HB := am (b_tr (by first | exact HB.out | exact below_drew HB.out | exact pw_below_drewN HB.out _) hb)
  clear hb
  refine ⟨_, rfl, ?_⟩
  refine hK.out _ _ (LS.out _ HB.out) (fun hHeld => ?_)
  clear hK K
  refine kN ?_
  refine plan_ [.p 8 18, .p 9 19, .p 10 20, .g 11 21, .g 12 22, .g 13 23, .p 14 24, .p 15 25, .g 16 26, .g 17 27, .g 18 28, .p 19 29, .p 20 9] ?_
  repeat (first | refine kP ?_ | refine kT hHeld ?_ | refine kG ?_)
  refine planE ?_
  refine done_ (by kernel_rfl) ?_
  go_wp2
  have hfin : Below w.heap.size w _ := b_tr (show Below w.heap.size w W0 from by rw [HG.out]; exact L0.out) HB.out
  go_ret
  exact ⟨rfl, hfin⟩
 ·have b1 : decide (c.slots ≤ fs) = false := decide_eq_false hs
  rw [if_neg hs] at HF
  clear hs
  refine start_ (n := 21) (S := fun w' => w'.cell? ⟨g + 1, 2, none⟩ = some (.int .i64 fs) ∧ w'.cell? ⟨g + 1, 1, none⟩ = some (.int .i64 fr) ∧ w'.cell? ⟨g, 0, none⟩ = some (.int .i64 c.n) ∧ w'.cell? ⟨g, 1, none⟩ = some (.int .i64 c.pi) ∧ w'.cell? ⟨g, 2, none⟩ = some (.int .i64 c.e) ∧ w'.cell? ⟨g, 3, none⟩ = some (.int .i64 c.g) ∧ w'.cell? ⟨g, 4, none⟩ = some (.int .i64 c.first) ∧ w'.cell? ⟨g, 5, none⟩ = some (.slice A c.pairs.length m) ∧ w'.cell? ⟨g + 1, 0, none⟩ = some (.int .i64 (fk)) ∧ w'.cell? ⟨g + 1, 5, none⟩ = some (.slice AE fe.length me)) (ds := []) #[false, false, false, false, false, false, false, false, false, false, false, false, false, false, false, false, false, false, false, false, false] (by kernel_rfl) rfl rfl ?st0 (fun hHeld => ?_)
  case st0 => exact hS0
  refine plan_ [.p 0 10, .t 1 11, .p 2 12, .p 3 13, .p 4 14, .t 5 15, .t 6 16] ?_
  repeat (first | refine kP ?_ | refine kT hHeld ?_ | refine kG ?_)
  refine planE ?_
  refine jO 7 (some 17) (fun K hK => ?_)
  refine kC Tryz.func41 #[c.v A m] ?_
  with_reducible refine (KS _ (hC.out.below (by first | exact HB.out | exact below_drew HB.out | exact pw_below_drewN HB.out _))).mono ?_
  rintro e W ⟨rfl, hb⟩
  replace HB := am (b_tr (by first | exact HB.out | exact below_drew HB.out | exact pw_below_drewN HB.out _) hb)
  clear hb
  refine ⟨_, rfl, ?_⟩
  refine hK.out _ _ (LS.out _ HB.out) (fun hHeld => ?_)
  clear hK K
  refine kN ?_
  refine plan_ [.p 8 18, .p 9 19, .p 10 20, .p 11 21, .t 12 22, .p 13 23, .p 14 24, .p 15 25, .p 16 26, .t 17 27, .p 18 28, .p 19 29, .p 20 9] ?_
  repeat (first | refine kP ?_ | refine kT hHeld ?_ | refine kG ?_)
  refine planE ?_
  refine done_ (by kernel_rfl) ?_
  obtain ⟨e1, e0⟩ := LG.out W HB.out
  have x0 : W.cell? ⟨g + 1, 0, none⟩ = some (.int .i64 (fk)) := (blk_cell e1 0).trans rfl
  have x2 : W.cell? ⟨g + 1, 2, none⟩ = some (.int .i64 fs) := (blk_cell e1 2).trans rfl
  have x3 : W.cell? ⟨g + 1, 3, none⟩ = some (.int .i64 p0) := (blk_cell e1 3).trans rfl
  have x4 : W.cell? ⟨g + 1, 4, none⟩ = some (.int .i64 p1) := (blk_cell e1 4).trans rfl
  have y0 : W.cell? ⟨g, 0, none⟩ = some (.int .i64 c.n) := (blk_cell e0 0).trans rfl
  clear e1 e0
  by_cases hn : c.n ≤ fs
  ·have b2 : decide (c.n ≤ fs) = true := decide_eq_true hn
   have hv : er = 6 := by rw [HF.out]; simp [hn, g3]
   subst hv
   clear hn HF
   go_wp2
   have hfin : Below w.heap.size w _ := b_tr (show Below w.heap.size w W0 from by rw [HG.out]; exact L0.out) HB.out
   go_ret
   exact ⟨rfl, hfin⟩
  have b2 : decide (c.n ≤ fs) = false := decide_eq_false hn
  have HF := am (HF.out.trans (if_neg (by simp [hn, g0, g3])))
  clear hn
  generalize empB ⟨p0, p1⟩ = bp at *
  cases bp with
  | false =>
   have hv : er = 1 := by rw [HF.out, if_pos rfl]
   subst hv
   clear HF
   go_wp2_with (go_at_call 165; ((with_reducible refine (KP _).mono ?_); rintro e W2 ⟨rfl, hb⟩; replace HB := am (b_tr HB.out hb); clear hb))
   have hfin : Below w.heap.size w _ := b_tr (show Below w.heap.size w W0 from by rw [HG.out]; exact L0.out) HB.out
   go_ret
   exact ⟨rfl, hfin⟩
  | true =>
   rw [if_neg (by simp)] at HF
   have hA := has_item #[] badB AE me fe (by omega)
   generalize frEchoes c (fk) fs = ec at *
   generalize fe.any badB = ba at *
   go_wp2_with (go_at_call 165; ((with_reducible refine (KP _).mono ?_); rintro e W2 ⟨rfl, hb⟩; replace HB := am (b_tr HB.out hb); clear hb))
   have hS0 := LS.out W2.drew (below_drew HB.out)
   by_cases hle : (fe.length : Int) = ec
   ·have b3 : ((fe.length : Int) != ec) = false := by rw [hle]; simp
    rw [if_neg (fun h => h hle)] at HF
    clear hle
    refine start_ (n := 11) (S := fun w' => w'.cell? ⟨g + 1, 2, none⟩ = some (.int .i64 fs) ∧ w'.cell? ⟨g + 1, 1, none⟩ = some (.int .i64 fr) ∧ w'.cell? ⟨g, 0, none⟩ = some (.int .i64 c.n) ∧ w'.cell? ⟨g, 1, none⟩ = some (.int .i64 c.pi) ∧ w'.cell? ⟨g, 2, none⟩ = some (.int .i64 c.e) ∧ w'.cell? ⟨g, 3, none⟩ = some (.int .i64 c.g) ∧ w'.cell? ⟨g, 4, none⟩ = some (.int .i64 c.first) ∧ w'.cell? ⟨g, 5, none⟩ = some (.slice A c.pairs.length m) ∧ w'.cell? ⟨g + 1, 0, none⟩ = some (.int .i64 (fk)) ∧ w'.cell? ⟨g + 1, 5, none⟩ = some (.slice AE fe.length me)) (ds := []) #[false, false, false, false, false, false, false, false, false, false, false] (by kernel_rfl) rfl rfl ?st0 (fun hHeld => ?_)
    case st0 => exact hS0
    refine plan_ [.p 0 58, .t 1 59, .p 2 60, .t 3 61, .p 4 62, .t 5 63, .p 6 64, .t 7 65] ?_
    repeat (first | refine kP ?_ | refine kT hHeld ?_ | refine kG ?_)
    refine planE ?_
    refine jO 8 (some 66) (fun K hK => ?_)
    refine kC Tryz.func155 #[c.v A m, .int .i64 (fk), .int .i64 fs] ?_
    with_reducible refine (KE _ (hC.out.below (by first | exact HB.out | exact below_drew HB.out | exact pw_below_drewN HB.out _))).mono ?_
    rintro e W3 ⟨rfl, hb⟩
    replace HB := am (b_tr (by first | exact HB.out | exact below_drew HB.out | exact pw_below_drewN HB.out _) hb)
    clear hb
    refine ⟨_, rfl, ?_⟩
    refine hK.out _ _ (LS.out _ HB.out) (fun hHeld => ?_)
    clear hK K
    refine kN ?_
    refine plan_ [.p 9 67, .p 10 57] ?_
    repeat (first | refine kP ?_ | refine kT hHeld ?_ | refine kG ?_)
    refine planE ?_
    refine done_ (by kernel_rfl) ?_
    have z5 : W3.cell? ⟨g + 1, 5, none⟩ = some (.slice AE fe.length me) := (blk_cell (LG.out W3 HB.out).1 5).trans rfl
    have hA3 := hA W3 (Kd.C_below hE.out HB.out) (fun x W _ => bad_calls x W) (by first | rfl | trivial)
    cases ba with
    | true =>
     have hv : er = 1 := by rw [HF.out, if_pos rfl]
     subst hv
     clear HF
     go_wp2_with (go_at_call 167; ((with_reducible refine hA3.mono ?_); rintro e W4 ⟨rfl, hb⟩; replace HB := am (b_tr HB.out hb); clear hb))
     have hfin : Below w.heap.size w _ := b_tr (show Below w.heap.size w W0 from by rw [HG.out]; exact L0.out) HB.out
     go_ret
     exact ⟨rfl, hfin⟩
    | false =>
     have hv : er = 0 := by rw [HF.out, if_neg (by simp)]
     subst hv
     clear HF
     go_wp2_with (go_at_call 167; ((with_reducible refine hA3.mono ?_); rintro e W4 ⟨rfl, hb⟩; replace HB := am (b_tr HB.out hb); clear hb))
     have hfin : Below w.heap.size w _ := b_tr (show Below w.heap.size w W0 from by rw [HG.out]; exact L0.out) HB.out
     go_ret
     exact ⟨rfl, hfin⟩
   ·have b3 : ((fe.length : Int) != ec) = true := by rw [bne_iff_ne]; exact hle
    have hv : er = 2 := by rw [HF.out, if_pos hle]
    subst hv
    clear hle HF
    refine start_ (n := 11) (S := fun w' => w'.cell? ⟨g + 1, 2, none⟩ = some (.int .i64 fs) ∧ w'.cell? ⟨g + 1, 1, none⟩ = some (.int .i64 fr) ∧ w'.cell? ⟨g, 0, none⟩ = some (.int .i64 c.n) ∧ w'.cell? ⟨g, 1, none⟩ = some (.int .i64 c.pi) ∧ w'.cell? ⟨g, 2, none⟩ = some (.int .i64 c.e) ∧ w'.cell? ⟨g, 3, none⟩ = some (.int .i64 c.g) ∧ w'.cell? ⟨g, 4, none⟩ = some (.int .i64 c.first) ∧ w'.cell? ⟨g, 5, none⟩ = some (.slice A c.pairs.length m) ∧ w'.cell? ⟨g + 1, 0, none⟩ = some (.int .i64 (fk)) ∧ w'.cell? ⟨g + 1, 5, none⟩ = some (.slice AE fe.length me)) (ds := []) #[false, false, false, false, false, false, false, false, false, false, false] (by kernel_rfl) rfl rfl ?st0 (fun hHeld => ?_)
    case st0 => exact hS0
    refine plan_ [.p 0 58, .t 1 59, .p 2 60, .t 3 61, .p 4 62, .t 5 63, .p 6 64, .t 7 65] ?_
    repeat (first | refine kP ?_ | refine kT hHeld ?_ | refine kG ?_)
    refine planE ?_
    refine jO 8 (some 66) (fun K hK => ?_)
    refine kC Tryz.func155 #[c.v A m, .int .i64 (fk), .int .i64 fs] ?_
    with_reducible refine (KE _ (hC.out.below (by first | exact HB.out | exact below_drew HB.out | exact pw_below_drewN HB.out _))).mono ?_
    rintro e W3 ⟨rfl, hb⟩
    replace HB := am (b_tr (by first | exact HB.out | exact below_drew HB.out | exact pw_below_drewN HB.out _) hb)
    clear hb
    refine ⟨_, rfl, ?_⟩
    refine hK.out _ _ (LS.out _ HB.out) (fun hHeld => ?_)
    clear hK K
    refine kN ?_
    refine plan_ [.p 9 67, .p 10 57] ?_
    repeat (first | refine kP ?_ | refine kT hHeld ?_ | refine kG ?_)
    refine planE ?_
    refine done_ (by kernel_rfl) ?_
    go_wp2
    have hfin : Below w.heap.size w _ := b_tr (show Below w.heap.size w W0 from by rw [HG.out]; exact L0.out) HB.out
    go_ret
    exact ⟨rfl, hfin⟩
theorem fcheck3 (c : Cf) (hc : c.OK) (fs fr p0 p1 : Int) (fe : List S55) (h0 : 0 ≤ fs) (h1 : fs ≤ 63) (h2 : 0 ≤ fr) (h3 : fr ≤ 65535) (hl : fe.length ≤ 1000) (A AE : Option Addr) (m me : Nat) (w : World) (hr : c.C w A m) (he : Kd.C k55 w AE fe.length fe) :
  Calls Tryz.prog 156 #[c.v A m, .agg #[.int .i64 (3), .int .i64 fr, .int .i64 fs, .int .i64 p0, .int .i64 p1, .slice AE fe.length me]] w fun e w' => e = .returned (.int .i64 (frErr c ⟨3, fr, fs, ⟨p0, p1⟩, fe⟩)) ∧ Below w.heap.size w w' := by
 have KS := fun W h => slots_calls c hc A m W h
 have KE := fun W h => echoes_calls c hc (3) fs A m W h
 have KP := fun W => value_calls ⟨p0, p1⟩ W
 have HF : Aside0 (frErr c ⟨3, fr, fs, ⟨p0, p1⟩, fe⟩ = if c.slots ≤ fs then 1 else if (3 : Int) = 0 ∨ (c.n ≤ fs ∧ (3 : Int) ≠ 3) then 6 else if valB ⟨p0, p1⟩ = false then 1 else if (fe.length : Int) ≠ frEchoes c (3) fs then 2 else if fe.any badB = true then 1 else 0) := ⟨rfl⟩
 have d1 : decide (fs < 0) = false := decide_eq_false (by omega)
 have d2 : decide (fr < 0) = false := decide_eq_false (by omega)
 have d3 : decide (65535 < fr) = false := decide_eq_false (by omega)
 have hC := am hr
 have hE := am he
 generalize hq : frErr c ⟨3, fr, fs, ⟨p0, p1⟩, fe⟩ = er at *
 clear hr he hq
 go_enter Tryz.func156, Tryz.ntmps156
 go_wp2
 have hz1 : (w.alloc (.cells #[.int .i64 c.n, .int .i64 c.pi, .int .i64 c.e, .int .i64 c.g, .int .i64 c.first, .slice A c.pairs.length m] 24)).heap.size = w.heap.size + 1 := by simp
 have hG0 := blk_alloc (blk_new w (.cells #[.int .i64 c.n, .int .i64 c.pi, .int .i64 c.e, .int .i64 c.g, .int .i64 c.first, .slice A c.pairs.length m] 24)) (.cells #[.int .i64 (3), .int .i64 fr, .int .i64 fs, .int .i64 p0, .int .i64 p1, .slice AE fe.length me] 117)
 have hG1 := blk_new (w.alloc (.cells #[.int .i64 c.n, .int .i64 c.pi, .int .i64 c.e, .int .i64 c.g, .int .i64 c.first, .slice A c.pairs.length m] 24)) (.cells #[.int .i64 (3), .int .i64 fr, .int .i64 fs, .int .i64 p0, .int .i64 p1, .slice AE fe.length me] 117)
 have hB0 := (b_al w (.cells #[.int .i64 c.n, .int .i64 c.pi, .int .i64 c.e, .int .i64 c.g, .int .i64 c.first, .slice A c.pairs.length m] 24)).alloc (by simp) (.cells #[.int .i64 (3), .int .i64 fr, .int .i64 fs, .int .i64 p0, .int .i64 p1, .slice AE fe.length me] 117)
 rw [hz1] at hG1
 clear hz1
 generalize (w.alloc (.cells #[.int .i64 c.n, .int .i64 c.pi, .int .i64 c.e, .int .i64 c.g, .int .i64 c.first, .slice A c.pairs.length m] 24)).alloc (.cells #[.int .i64 (3), .int .i64 fr, .int .i64 fs, .int .i64 p0, .int .i64 p1, .slice AE fe.length me] 117) = W0 at hG0 hG1 hB0 ⊢
 have hC := am (hC.out.below hB0)
 have hE := am (Kd.C_below hE.out hB0)
 generalize hg : w.heap.size = g at *
 have HG := am hg
 clear hg
 have LS : Aside0 (∀ w', Below W0.heap.size W0 w' → (fun w' => w'.cell? ⟨g + 1, 2, none⟩ = some (.int .i64 fs) ∧ w'.cell? ⟨g + 1, 1, none⟩ = some (.int .i64 fr) ∧ w'.cell? ⟨g, 0, none⟩ = some (.int .i64 c.n) ∧ w'.cell? ⟨g, 1, none⟩ = some (.int .i64 c.pi) ∧ w'.cell? ⟨g, 2, none⟩ = some (.int .i64 c.e) ∧ w'.cell? ⟨g, 3, none⟩ = some (.int .i64 c.g) ∧ w'.cell? ⟨g, 4, none⟩ = some (.int .i64 c.first) ∧ w'.cell? ⟨g, 5, none⟩ = some (.slice A c.pairs.length m) ∧ w'.cell? ⟨g + 1, 0, none⟩ = some (.int .i64 (3)) ∧ w'.cell? ⟨g + 1, 5, none⟩ = some (.slice AE fe.length me)) w') := ⟨fun w' hb => ⟨(blk_cell (blk_below hG1 hb) 2).trans rfl, (blk_cell (blk_below hG1 hb) 1).trans rfl, (blk_cell (blk_below hG0 hb) 0).trans rfl, (blk_cell (blk_below hG0 hb) 1).trans rfl, (blk_cell (blk_below hG0 hb) 2).trans rfl, (blk_cell (blk_below hG0 hb) 3).trans rfl, (blk_cell (blk_below hG0 hb) 4).trans rfl, (blk_cell (blk_below hG0 hb) 5).trans rfl, (blk_cell (blk_below hG1 hb) 0).trans rfl, (blk_cell (blk_below hG1 hb) 5).trans rfl⟩⟩
 have LG : Aside0 (∀ w', Below W0.heap.size W0 w' → w'.heap[g + 1]? = some (.cells #[.int .i64 (3), .int .i64 fr, .int .i64 fs, .int .i64 p0, .int .i64 p1, .slice AE fe.length me] 117 (0, 0)) ∧ w'.heap[g]? = some (.cells #[.int .i64 c.n, .int .i64 c.pi, .int .i64 c.e, .int .i64 c.g, .int .i64 c.first, .slice A c.pairs.length m] 24 (0, 0))) := ⟨fun w' hb => ⟨blk_below hG1 hb, blk_below hG0 hb⟩⟩
 have L0 := am hB0
 have HB := am (Below.refl W0.heap.size W0)
 clear hB0 hG0 hG1
 have hS0 := LS.out W0.drew (below_drew (Below.refl _ _))
 by_cases hs : c.slots ≤ fs
 ·have b1 : decide (c.slots ≤ fs) = true := decide_eq_true hs
  have hv : er = 1 := by rw [HF.out, if_pos hs]
  subst hv
  clear hs HF
  refine start_ (n := 21) (S := fun w' => w'.cell? ⟨g + 1, 2, none⟩ = some (.int .i64 fs) ∧ w'.cell? ⟨g + 1, 1, none⟩ = some (.int .i64 fr) ∧ w'.cell? ⟨g, 0, none⟩ = some (.int .i64 c.n) ∧ w'.cell? ⟨g, 1, none⟩ = some (.int .i64 c.pi) ∧ w'.cell? ⟨g, 2, none⟩ = some (.int .i64 c.e) ∧ w'.cell? ⟨g, 3, none⟩ = some (.int .i64 c.g) ∧ w'.cell? ⟨g, 4, none⟩ = some (.int .i64 c.first) ∧ w'.cell? ⟨g, 5, none⟩ = some (.slice A c.pairs.length m) ∧ w'.cell? ⟨g + 1, 0, none⟩ = some (.int .i64 (3)) ∧ w'.cell? ⟨g + 1, 5, none⟩ = some (.slice AE fe.length me)) (ds := []) #[false, false, false, false, false, false, false, false, false, false, false, false, false, false, false, false, false, false, false, false, false] (by kernel_rfl) rfl rfl ?st0 (fun hHeld => ?_)
  case st0 => exact hS0
  refine plan_ [.p 0 10, .t 1 11, .p 2 12, .p 3 13, .p 4 14, .t 5 15, .t 6 16] ?_
  repeat (first | refine kP ?_ | refine kT hHeld ?_ | refine kG ?_)
  refine planE ?_
  refine jO 7 (some 17) (fun K hK => ?_)
  refine kC Tryz.func41 #[c.v A m] ?_
  with_reducible refine (KS _ (hC.out.below (by first | exact HB.out | exact below_drew HB.out | exact pw_below_drewN HB.out _))).mono ?_
  rintro e W ⟨rfl, hb⟩
  replace HB := am (b_tr (by first | exact HB.out | exact below_drew HB.out | exact pw_below_drewN HB.out _) hb)
  clear hb
  refine ⟨_, rfl, ?_⟩
  refine hK.out _ _ (LS.out _ HB.out) (fun hHeld => ?_)
  clear hK K
  refine kN ?_
  refine plan_ [.p 8 18, .p 9 19, .p 10 20, .g 11 21, .g 12 22, .g 13 23, .p 14 24, .p 15 25, .g 16 26, .g 17 27, .g 18 28, .p 19 29, .p 20 9] ?_
  repeat (first | refine kP ?_ | refine kT hHeld ?_ | refine kG ?_)
  refine planE ?_
  refine done_ (by kernel_rfl) ?_
  go_wp2
  have hfin : Below w.heap.size w _ := b_tr (show Below w.heap.size w W0 from by rw [HG.out]; exact L0.out) HB.out
  go_ret
  exact ⟨rfl, hfin⟩
 ·have b1 : decide (c.slots ≤ fs) = false := decide_eq_false hs
  rw [if_neg hs] at HF
  clear hs
  refine start_ (n := 21) (S := fun w' => w'.cell? ⟨g + 1, 2, none⟩ = some (.int .i64 fs) ∧ w'.cell? ⟨g + 1, 1, none⟩ = some (.int .i64 fr) ∧ w'.cell? ⟨g, 0, none⟩ = some (.int .i64 c.n) ∧ w'.cell? ⟨g, 1, none⟩ = some (.int .i64 c.pi) ∧ w'.cell? ⟨g, 2, none⟩ = some (.int .i64 c.e) ∧ w'.cell? ⟨g, 3, none⟩ = some (.int .i64 c.g) ∧ w'.cell? ⟨g, 4, none⟩ = some (.int .i64 c.first) ∧ w'.cell? ⟨g, 5, none⟩ = some (.slice A c.pairs.length m) ∧ w'.cell? ⟨g + 1, 0, none⟩ = some (.int .i64 (3)) ∧ w'.cell? ⟨g + 1, 5, none⟩ = some (.slice AE fe.length me)) (ds := []) #[false, false, false, false, false, false, false, false, false, false, false, false, false, false, false, false, false, false, false, false, false] (by kernel_rfl) rfl rfl ?st0 (fun hHeld => ?_)
  case st0 => exact hS0
  refine plan_ [.p 0 10, .t 1 11, .p 2 12, .p 3 13, .p 4 14, .t 5 15, .t 6 16] ?_
  repeat (first | refine kP ?_ | refine kT hHeld ?_ | refine kG ?_)
  refine planE ?_
  refine jO 7 (some 17) (fun K hK => ?_)
  refine kC Tryz.func41 #[c.v A m] ?_
  with_reducible refine (KS _ (hC.out.below (by first | exact HB.out | exact below_drew HB.out | exact pw_below_drewN HB.out _))).mono ?_
  rintro e W ⟨rfl, hb⟩
  replace HB := am (b_tr (by first | exact HB.out | exact below_drew HB.out | exact pw_below_drewN HB.out _) hb)
  clear hb
  refine ⟨_, rfl, ?_⟩
  refine hK.out _ _ (LS.out _ HB.out) (fun hHeld => ?_)
  clear hK K
  refine kN ?_
  refine plan_ [.p 8 18, .p 9 19, .p 10 20, .p 11 21, .t 12 22, .p 13 23, .p 14 24, .p 15 25, .p 16 26, .t 17 27, .p 18 28, .p 19 29, .p 20 9] ?_
  repeat (first | refine kP ?_ | refine kT hHeld ?_ | refine kG ?_)
  refine planE ?_
  refine done_ (by kernel_rfl) ?_
  obtain ⟨e1, e0⟩ := LG.out W HB.out
  have x0 : W.cell? ⟨g + 1, 0, none⟩ = some (.int .i64 (3)) := (blk_cell e1 0).trans rfl
  have x2 : W.cell? ⟨g + 1, 2, none⟩ = some (.int .i64 fs) := (blk_cell e1 2).trans rfl
  have x3 : W.cell? ⟨g + 1, 3, none⟩ = some (.int .i64 p0) := (blk_cell e1 3).trans rfl
  have x4 : W.cell? ⟨g + 1, 4, none⟩ = some (.int .i64 p1) := (blk_cell e1 4).trans rfl
  have y0 : W.cell? ⟨g, 0, none⟩ = some (.int .i64 c.n) := (blk_cell e0 0).trans rfl
  clear e1 e0
  have HF := am (HF.out.trans (if_neg (by simp)))
  generalize valB ⟨p0, p1⟩ = bp at *
  cases bp with
  | false =>
   have hv : er = 1 := by rw [HF.out, if_pos rfl]
   subst hv
   clear HF
   by_cases hn : c.n ≤ fs
   all_goals first | have b2 : decide (c.n ≤ fs) = true := decide_eq_true hn | have b2 : decide (c.n ≤ fs) = false := decide_eq_false hn
   all_goals
    clear hn
    go_wp2_with (go_at_call 166; ((with_reducible refine (KP _).mono ?_); rintro e W2 ⟨rfl, hb⟩; replace HB := am (b_tr HB.out hb); clear hb))
    have hfin : Below w.heap.size w _ := b_tr (show Below w.heap.size w W0 from by rw [HG.out]; exact L0.out) HB.out
    go_ret
    exact ⟨rfl, hfin⟩
  | true =>
   rw [if_neg (by simp)] at HF
   have hA := has_item #[] badB AE me fe (by omega)
   generalize frEchoes c (3) fs = ec at *
   generalize fe.any badB = ba at *
   by_cases hn : c.n ≤ fs
   all_goals first | have b2 : decide (c.n ≤ fs) = true := decide_eq_true hn | have b2 : decide (c.n ≤ fs) = false := decide_eq_false hn
   all_goals
    clear hn
    go_wp2_with (go_at_call 166; ((with_reducible refine (KP _).mono ?_); rintro e W2 ⟨rfl, hb⟩; replace HB := am (b_tr HB.out hb); clear hb))
    have hS0 := LS.out W2.drew (below_drew HB.out)
    by_cases hle : (fe.length : Int) = ec
    ·have b3 : ((fe.length : Int) != ec) = false := by rw [hle]; simp
     rw [if_neg (fun h => h hle)] at HF
     clear hle
     refine start_ (n := 11) (S := fun w' => w'.cell? ⟨g + 1, 2, none⟩ = some (.int .i64 fs) ∧ w'.cell? ⟨g + 1, 1, none⟩ = some (.int .i64 fr) ∧ w'.cell? ⟨g, 0, none⟩ = some (.int .i64 c.n) ∧ w'.cell? ⟨g, 1, none⟩ = some (.int .i64 c.pi) ∧ w'.cell? ⟨g, 2, none⟩ = some (.int .i64 c.e) ∧ w'.cell? ⟨g, 3, none⟩ = some (.int .i64 c.g) ∧ w'.cell? ⟨g, 4, none⟩ = some (.int .i64 c.first) ∧ w'.cell? ⟨g, 5, none⟩ = some (.slice A c.pairs.length m) ∧ w'.cell? ⟨g + 1, 0, none⟩ = some (.int .i64 (3)) ∧ w'.cell? ⟨g + 1, 5, none⟩ = some (.slice AE fe.length me)) (ds := []) #[false, false, false, false, false, false, false, false, false, false, false] (by kernel_rfl) rfl rfl ?st0 (fun hHeld => ?_)
     case st0 => exact hS0
     refine plan_ [.p 0 58, .t 1 59, .p 2 60, .t 3 61, .p 4 62, .t 5 63, .p 6 64, .t 7 65] ?_
     repeat (first | refine kP ?_ | refine kT hHeld ?_ | refine kG ?_)
     refine planE ?_
     refine jO 8 (some 66) (fun K hK => ?_)
     refine kC Tryz.func155 #[c.v A m, .int .i64 (3), .int .i64 fs] ?_
     with_reducible refine (KE _ (hC.out.below (by first | exact HB.out | exact below_drew HB.out | exact pw_below_drewN HB.out _))).mono ?_
     rintro e W3 ⟨rfl, hb⟩
     replace HB := am (b_tr (by first | exact HB.out | exact below_drew HB.out | exact pw_below_drewN HB.out _) hb)
     clear hb
     refine ⟨_, rfl, ?_⟩
     refine hK.out _ _ (LS.out _ HB.out) (fun hHeld => ?_)
     clear hK K
     refine kN ?_
     refine plan_ [.p 9 67, .p 10 57] ?_
     repeat (first | refine kP ?_ | refine kT hHeld ?_ | refine kG ?_)
     refine planE ?_
     refine done_ (by kernel_rfl) ?_
     have z5 : W3.cell? ⟨g + 1, 5, none⟩ = some (.slice AE fe.length me) := (blk_cell (LG.out W3 HB.out).1 5).trans rfl
     have hA3 := hA W3 (Kd.C_below hE.out HB.out) (fun x W _ => bad_calls x W) (by first | rfl | trivial)
     cases ba with
     | true =>
      have hv : er = 1 := by rw [HF.out, if_pos rfl]
      subst hv
      clear HF
      go_wp2_with (go_at_call 167; ((with_reducible refine hA3.mono ?_); rintro e W4 ⟨rfl, hb⟩; replace HB := am (b_tr HB.out hb); clear hb))
      have hfin : Below w.heap.size w _ := b_tr (show Below w.heap.size w W0 from by rw [HG.out]; exact L0.out) HB.out
      go_ret
      exact ⟨rfl, hfin⟩
     | false =>
      have hv : er = 0 := by rw [HF.out, if_neg (by simp)]
      subst hv
      clear HF
      go_wp2_with (go_at_call 167; ((with_reducible refine hA3.mono ?_); rintro e W4 ⟨rfl, hb⟩; replace HB := am (b_tr HB.out hb); clear hb))
      have hfin : Below w.heap.size w _ := b_tr (show Below w.heap.size w W0 from by rw [HG.out]; exact L0.out) HB.out
      go_ret
      exact ⟨rfl, hfin⟩
    ·have b3 : ((fe.length : Int) != ec) = true := by rw [bne_iff_ne]; exact hle
     have hv : er = 2 := by rw [HF.out, if_pos hle]
     subst hv
     clear hle HF
     refine start_ (n := 11) (S := fun w' => w'.cell? ⟨g + 1, 2, none⟩ = some (.int .i64 fs) ∧ w'.cell? ⟨g + 1, 1, none⟩ = some (.int .i64 fr) ∧ w'.cell? ⟨g, 0, none⟩ = some (.int .i64 c.n) ∧ w'.cell? ⟨g, 1, none⟩ = some (.int .i64 c.pi) ∧ w'.cell? ⟨g, 2, none⟩ = some (.int .i64 c.e) ∧ w'.cell? ⟨g, 3, none⟩ = some (.int .i64 c.g) ∧ w'.cell? ⟨g, 4, none⟩ = some (.int .i64 c.first) ∧ w'.cell? ⟨g, 5, none⟩ = some (.slice A c.pairs.length m) ∧ w'.cell? ⟨g + 1, 0, none⟩ = some (.int .i64 (3)) ∧ w'.cell? ⟨g + 1, 5, none⟩ = some (.slice AE fe.length me)) (ds := []) #[false, false, false, false, false, false, false, false, false, false, false] (by kernel_rfl) rfl rfl ?st0 (fun hHeld => ?_)
     case st0 => exact hS0
     refine plan_ [.p 0 58, .t 1 59, .p 2 60, .t 3 61, .p 4 62, .t 5 63, .p 6 64, .t 7 65] ?_
     repeat (first | refine kP ?_ | refine kT hHeld ?_ | refine kG ?_)
     refine planE ?_
     refine jO 8 (some 66) (fun K hK => ?_)
     refine kC Tryz.func155 #[c.v A m, .int .i64 (3), .int .i64 fs] ?_
     with_reducible refine (KE _ (hC.out.below (by first | exact HB.out | exact below_drew HB.out | exact pw_below_drewN HB.out _))).mono ?_
     rintro e W3 ⟨rfl, hb⟩
     replace HB := am (b_tr (by first | exact HB.out | exact below_drew HB.out | exact pw_below_drewN HB.out _) hb)
     clear hb
     refine ⟨_, rfl, ?_⟩
     refine hK.out _ _ (LS.out _ HB.out) (fun hHeld => ?_)
     clear hK K
     refine kN ?_
     refine plan_ [.p 9 67, .p 10 57] ?_
     repeat (first | refine kP ?_ | refine kT hHeld ?_ | refine kG ?_)
     refine planE ?_
     refine done_ (by kernel_rfl) ?_
     go_wp2
     have hfin : Below w.heap.size w _ := b_tr (show Below w.heap.size w W0 from by rw [HG.out]; exact L0.out) HB.out
     go_ret
     exact ⟨rfl, hfin⟩
theorem frame_Check (c : Cf) (hc : c.OK) (fk fs fr p0 p1 : Int) (fe : List S55) (hk0 : 0 ≤ fk) (hk1 : fk ≤ 3) (h0 : 0 ≤ fs) (h1 : fs ≤ 63) (h2 : 0 ≤ fr) (h3 : fr ≤ 65535) (hl : fe.length ≤ 1000) (A AE : Option Addr) (m me : Nat) (w : World) (hr : c.C w A m) (he : Kd.C k55 w AE fe.length fe) :
  Calls Tryz.prog 156 #[c.v A m, .agg #[.int .i64 fk, .int .i64 fr, .int .i64 fs, .int .i64 p0, .int .i64 p1, .slice AE fe.length me]] w fun e w' => e = .returned (.int .i64 (frErr c ⟨fk, fr, fs, ⟨p0, p1⟩, fe⟩)) ∧ Below w.heap.size w w' := by
 obtain rfl | rfl | rfl | rfl : fk = 0 ∨ fk = 1 ∨ fk = 2 ∨ fk = 3 := by omega
 ·exact fcheck0 c hc fs fr p0 p1 fe h0 h1 h2 h3 hl A AE m me w hr he
 ·exact fcheck1 c hc 1 (.inl rfl) fs fr p0 p1 fe h0 h1 h2 h3 hl A AE m me w hr he
 ·exact fcheck1 c hc 2 (.inr rfl) fs fr p0 p1 fe h0 h1 h2 h3 hl A AE m me w hr he
 ·exact fcheck3 c hc fs fr p0 p1 fe h0 h1 h2 h3 hl A AE m me w hr he
end Go.Proofs.YtgcgglmmfgmaoaaGreat.PK
end
section
namespace Go.Proofs.YtgcgglmmfgmaoaaGreat.PK
open Go Go.RowKit Go.Proofs.YtgcgglmmfgmaoaaGreatW.PrintWords Go.Proofs.YtgcgglmmfgmaoaaGreatW.PrintLast Go.Proofs.YtgcgglmmfgmaoaaGreatW.PrintMore
attribute [local go_sem] max2_int min2_int max_two min_two
theorem reader_next (g : Nat) (l : List UInt8) (hl : isBits l) (m : Nat) (hm : m ≤ l.length) (h62 : m ≤ 62) (hlen : l.length ≤ 900) (w : World) (hg : w.heap[g]? = some (.cells #[.string (S l)] 263 (0, 0))) :
  Calls Tryz.prog 153 #[.pointer (some ⟨g, 0, none⟩), .int .i64 m] w fun e w' => e = .returned (.int .i64 (val (l.take m) 0 : Nat)) ∧ w'.heap[g]? = some (.cells #[.string (S (l.drop m))] 263 (0, 0)) ∧ Kp (fun i => i = g) w w' := by
 have hc : w.cell? ⟨g, 0, none⟩ = some (.string (S l)) := (blk_cell hg 0).trans rfl
 have hf := blk_frozen hg 0
 have HG := am hg
 clear hg
 have p0 : (0 : Int) ≤ (m : Int) := by omega
 have p1 : (m : Int) ≤ ((S l).size : Int) := by rw [S_size]; omega
 have p2 : m ≤ (S l).size := by rw [S_size]; omega
 have p3 : (S l).size ≤ 900 := by rw [S_size]; omega
 have hx := am (S_take l m)
 have hy : Aside0 ((S l).extract m (S l).size = S (l.drop m)) := ⟨by rw [S_extract, S_size]; congr 1; rw [List.take_of_length_le]; simp⟩
 generalize S l = s at *
 go_enter Tryz.func153, Tryz.ntmps153
 go_wp2
 generalize s.extract 0 m = a0 at *
 have ha : a0 = S (l.take m) := hx.out
 have hbits : isBits (l.take m) := fun c hc => hl c (List.mem_of_mem_take hc)
 have hb0 : ∀ (pos : Nat) (hp : pos < a0.size), (a0[pos]'hp).toNat = 48 ∨ (a0[pos]'hp).toNat = 49 := by
  subst ha
  intro pos hp
  exact hbits _ (List.getElem_mem _)
 have hdat : a0.data.toList = l.take m := by rw [ha]
 have hsz : a0.size ≤ 62 := by rw [ha, S_size, List.length_take]; omega
 have HD := am hdat
 have HBT := am hb0
 clear ha hx hbits hdat hb0
 go_loopw [5] (fun i w' => ∃ (pos : Nat) (v : Nat), w' = w.iter a0 pos ∧ i = .int .i64 v ∧ pos ≤ 62 ∧ Aside0 (v < 2 ^ pos) ∧ Aside0 (val a0.data.toList 0 = val (a0.data.toList.drop pos) v)) (fun _ w' => a0.size - w'.iterPos w.heap.size)
 case atStart => exact ⟨0, 0, rfl, rfl, by omega, ⟨by simp⟩, ⟨by simp⟩⟩
 case round =>
  obtain ⟨pos, v, rfl, rfl, hp62, HV, HC⟩ := hrel
  by_cases hp : pos < a0.size
  ·obtain ⟨rv, n, hd, hn, hcase⟩ := rune_at a0 pos hp
   have hnx : ∀ ty, (Instr.next (.pointer (some ⟨w.heap.size, 0, none⟩)) true ty).run Tryz.prog (w.iter a0 pos) = .ok (.tuple #[.bool true, .int .i64 pos, .int .i32 rv]) (w.iter a0 (pos + n)) := fun ty => by
    have := run_next_any (P := Tryz.prog) w a0 pos ty hp
    rw [hd] at this
    exact this
   have hdr := drop_at a0 pos hp
   rw [hdr] at HC
   clear hd hdr
   have hv : v < 4611686018427387904 := Nat.lt_of_lt_of_le HV.out (Nat.le_trans (Nat.pow_le_pow_right (by decide) hp62) (by decide))
   have h01 := HBT.out pos hp
   obtain rfl : n = 1 := by omega
   obtain ⟨b, rfl, hb1⟩ : ∃ b, rv = 48 + b ∧ b ≤ 1 := ⟨rv - 48, by omega, by omega⟩
   have HC' : Aside0 (val a0.data.toList 0 = val (a0.data.toList.drop (pos + 1)) (2 * v + b)) := ⟨by rw [HC.out, val]; congr 1; omega⟩
   have HV' : Aside0 (2 * v + b < 2 ^ (pos + 1)) := ⟨by have := HV.out; rw [Nat.pow_succ]; omega⟩
   have HO := am (or_double v b hv hb1)
   clear HC hcase h01 HV
   go_wp2
   go_roundw
   case rel => exact ⟨pos + 1, 2 * v + b, rfl, by rw [show (48 : Int) + (b : Int) - 48 = (b : Int) by omega, HO.out], by omega, HV', HC'⟩
   case measure => simp; omega
  ·have hnx : ∀ ty, (Instr.next (.pointer (some ⟨w.heap.size, 0, none⟩)) true ty).run Tryz.prog (w.iter a0 pos) = _ := fun ty => run_next_end w a0 pos ty hp
   have HR : Aside0 (val (l.take m) 0 = v) := ⟨by
    rw [← HD.out, HC.out, List.drop_of_length_le (by simp; omega)]; rfl⟩
   have c2 : (w.iter a0 pos).cell? ⟨g, 0, none⟩ = some (.string s) := pw_cell_below (b_al w _) hc
   have f2 : (w.iter a0 pos).frozen? ⟨g, 0, none⟩ = false := ((b_al w (.stringIter a0 pos)).frozen (p := ⟨g, 0, none⟩) (World.block_lt_of_cell? _ _ hc)).trans hf
   have HWI := am (b_al w (.stringIter a0 pos))
   clear HC HV
   go_wp2
   go_ret
   refine ⟨by rw [HR.out]; rfl, ?_, Kp.set_ (F := fun i => i = g) (p := ⟨g, 0, none⟩) (Kp.of HWI.out) (.inl rfl) _⟩
   rw [hy.out]
   exact blk_put (blk_below HG.out HWI.out) 0 _ rfl
def itemOf (l : List UInt8) : S55 := ⟨(val (l.take 2) 0 : Nat), (val ((l.drop 2).take 8) 0 : Nat)⟩
theorem reader_item (g : Nat) (l : List UInt8) (hl : isBits l) (hm : 10 ≤ l.length) (hlen : l.length ≤ 900) (w : World) (hg : w.heap[g]? = some (.cells #[.string (S l)] 263 (0, 0))) :
  Calls Tryz.prog 154 #[.pointer (some ⟨g, 0, none⟩)] w fun e w' => e = .returned (.agg #[.int .i64 (itemOf l).f0, .int .i64 (itemOf l).f1]) ∧ w'.heap[g]? = some (.cells #[.string (S (l.drop 10))] 263 (0, 0)) ∧ Kp (fun i => i = g) w w' := by
 have K1 : ∀ W, W.heap[g]? = some (.cells #[.string (S l)] 263 (0, 0)) → Calls Tryz.prog 153 #[.pointer (some ⟨g, 0, none⟩), .int .i64 2] W fun e w' => e = .returned (.int .i64 (val (l.take 2) 0 : Nat)) ∧ w'.heap[g]? = some (.cells #[.string (S (l.drop 2))] 263 (0, 0)) ∧ Kp (fun i => i = g) W w' := fun W h => reader_next g l hl 2 (by omega) (by omega) hlen W h
 have hd : isBits (l.drop 2) := fun c hc => hl c (List.mem_of_mem_drop hc)
 have K2 : ∀ W, W.heap[g]? = some (.cells #[.string (S (l.drop 2))] 263 (0, 0)) → Calls Tryz.prog 153 #[.pointer (some ⟨g, 0, none⟩), .int .i64 8] W fun e w' => e = .returned (.int .i64 (val ((l.drop 2).take 8) 0 : Nat)) ∧ w'.heap[g]? = some (.cells #[.string (S ((l.drop 2).drop 8))] 263 (0, 0)) ∧ Kp (fun i => i = g) W w' := fun W h => reader_next g (l.drop 2) hd 8 (by simp; omega) (by omega) (by simp; omega) W h
 rw [List.drop_drop] at K2
 have h1 := am K1
 have h2 := am K2
 have HG := am hg
 have hlt := blk_lt hg
 unfold itemOf
 generalize val (l.take 2) 0 = k at *
 generalize val ((l.drop 2).take 8) 0 = v at *
 clear K1 K2 hg
 have hu := Tryz.underlying55
 go_enter Tryz.func154, Tryz.ntmps154
 go_wp2_with (go_at_call 153; (first
  | ((refine (h1.out _ (blk_alloc HG.out _)).mono ?_); rintro e W1 ⟨rfl, ha, hb⟩; have A1 := am ha; have B1 := am hb; clear ha hb h1; have R1 := am (B1.out.blk (blk_new w _) (Nat.ne_of_gt hlt)))
  | ((refine (h2.out _ A1.out).mono ?_); rintro e W2 ⟨rfl, ha, hb⟩; have A2 := am ha; have B2 := am hb; clear ha hb; have R2 := am (B2.out.blk R1.out (Nat.ne_of_gt hlt)); have r0 : W2.cell? ⟨w.heap.size, 0, none⟩ = some (.int .i64 0) := (blk_cell R2.out 0).trans rfl; have r1 : W2.cell? ⟨w.heap.size, 1, none⟩ = some (.int .i64 0) := (blk_cell R2.out 1).trans rfl; have f0 := blk_frozen R2.out 0; have f1 := blk_frozen R2.out 1)))
 have hne : g ≠ w.heap.size := Nat.ne_of_lt hlt
 refine bodyPost_ret (v := .agg #[.int .i64 k, .int .i64 v]) (by simp [results, Tryz.results154, go_sem, r0, r1]) rfl ⟨rfl, ?_, ?_⟩
 ·exact blk_far (blk_far A2.out (p := ⟨w.heap.size, 0, none⟩) hne _) (p := ⟨w.heap.size, 1, none⟩) hne _
 ·exact Kp.set_ (p := ⟨w.heap.size, 1, none⟩) (Kp.set_ (p := ⟨w.heap.size, 0, none⟩) (((Kp.of (b_al w _)).trans B1.out).trans B2.out) (.inr (Nat.le_refl _)) _) (.inr (Nat.le_refl _)) _
end Go.Proofs.YtgcgglmmfgmaoaaGreat.PK
end
section
namespace Go.Proofs.YtgcgglmmfgmaoaaGreat.PK
open Go Go.RowKit Go.Proofs.YtgcgglmmfgmaoaaGreatW.PrintWords Go.Proofs.YtgcgglmmfgmaoaaGreatW.PrintLast Go.Proofs.YtgcgglmmfgmaoaaGreatW.PrintMore
attribute [local go_sem] max2_int min2_int max_two min_two
set_option maxRecDepth 100000
set_option maxHeartbeats 4000000
def openE (l : List UInt8) : ByteArray × Int := if wholeL l = true then openW l.dropLast else (S [], 4)
theorem crc_open (l : List UInt8) (hl : l.length ≤ 900) (w : World) :
  Calls Tryz.prog 152 #[.string (S l)] w fun e w' => e = .returned (.tuple #[.string (openE l).1, .int .i64 (openE l).2]) ∧ Below w.heap.size w w' := by
 have KW := am (fun W => sym_Whole.calls (S l) _ W (sym_Whole_eq l (by omega)))
 cases hw : wholeL l with
 | false =>
  rw [hw] at KW
  rw [show openE l = (S [], 4) by unfold openE; rw [hw]; rfl]
  clear hw hl
  go_enter Tryz.func152, Tryz.ntmps152
  go_wp2_with (go_at_call 164; refine (KW.out _).mono ?_; rintro e W ⟨rfl, hb⟩; have HB := am hb; clear hb)
  go_ret2
  exact ⟨rfl, HB.out⟩
 | true =>
  rw [hw] at KW
  rw [show openE l = openW l.dropLast by unfold openE; rw [hw]; rfl]
  obtain ⟨u, hu, rfl⟩ := whole_bits l hw
  rw [List.length_append, List.length_singleton] at hl
  rw [List.dropLast_concat]
  have z := S_size (u ++ [35])
  rw [List.length_append, List.length_singleton] at z
  have e1 : wrap64 (((S (u ++ [35])).size : Int) - 1) = (u.length : Int) := by rw [w64_q _ (by omega) (by omega)]; omega
  by_cases h16 : u.length < 16
  ·rw [show openW u = (S [], 3) by unfold openW; rw [if_pos h16]]
   have e2 : wrap64 ((u.length : Int) - 16) = (u.length : Int) - 16 := w64_q _ (by omega) (by omega)
   have q1 := decide_eq_true (show (u.length : Int) - 16 < 0 by omega)
   generalize S (u ++ [35]) = s at *
   generalize (u.length : Int) = n at *
   clear hw hl hu z h16
   go_enter Tryz.func152, Tryz.ntmps152
   go_wp2_with (go_at_call 164; refine (KW.out _).mono ?_; rintro e W ⟨rfl, hb⟩; have HB := am hb; clear hb)
   go_ret2
   exact ⟨rfl, HB.out⟩
  obtain ⟨k, hk⟩ : ∃ k, k = u.length - 16 := ⟨_, rfl⟩
  have e2 : wrap64 ((u.length : Int) - 16) = (k : Int) := by rw [w64_q _ (by omega) (by omega)]; omega
  obtain ⟨t, ht⟩ : ∃ t, t = u.take k := ⟨_, rfl⟩
  obtain ⟨v, hv⟩ : ∃ v, v = u.drop k := ⟨_, rfl⟩
  have htb : isBits t := fun c hc => hu c (List.mem_of_mem_take (ht ▸ hc))
  obtain ⟨sm, hsm⟩ : ∃ sm : Int, sm = (sumF t 65535 : Nat) := ⟨_, rfl⟩
  have KS := am (fun W => crc_Sum.calls (S t) _ W (crc_Sum_eq t htb))
  rw [← hsm] at KS
  have KB := am (fun W => sym_Bits.calls 70 sm 16 _ W (sym_Bits_eq sm 16 70 (by decide) (by decide) (Nat.le_refl _)))
  obtain ⟨b, hb⟩ : ∃ b, b = bitL sm 16 := ⟨_, rfl⟩
  rw [← hb] at KB
  have hq : (b == v) = decide (syn u = 0) := by
   refine Bool.eq_iff_iff.2 ?_
   rw [beq_iff_eq, decide_eq_true_iff, hb, hsm, ht, hv]
   exact taken_iff u k hu (by omega)
  have hp := open_parts u h16
  rw [← hk, Int.toNat_natCast, Int.toNat_natCast, ← ht, ← hv] at hp
  have hR : openW u = if syn u = 0 then (S t, 0) else (S [], 5) := by unfold openW; rw [if_neg h16, ht, hk]
  rw [hR]
  clear hR hw hu h16 htb hsm hb ht hv
  have q1 : decide ((k : Int) < 0) = false := decide_eq_false (by omega)
  have x1 := eq_true (show k ≤ (S (u ++ [35])).size by omega)
  have x2 := eq_true (show (k : Int) ≤ ((S (u ++ [35])).size : Int) by omega)
  have x3 := eq_true (show (k : Int) ≤ (u.length : Int) by omega)
  have x4 := eq_true (show k ≤ u.length by omega)
  have x5 := eq_true (show u.length ≤ (S (u ++ [35])).size by omega)
  have x6 := eq_true (show (u.length : Int) ≤ ((S (u ++ [35])).size : Int) by omega)
  obtain ⟨p1, p2⟩ := hp
  obtain ⟨n, hn⟩ : ∃ n, n = u.length := ⟨_, rfl⟩
  rw [← hn] at *
  obtain ⟨c, hc⟩ : ∃ c, c = decide (syn u = 0) := ⟨_, rfl⟩
  rw [← hc] at hq
  have hC : (if syn u = 0 then (S t, (0 : Int)) else (S [], 5)) = if c = true then (S t, 0) else (S [], 5) := by rw [hc]; by_cases h : syn u = 0 <;> simp [h]
  rw [hC]
  clear hC hc hl hk z hn
  generalize S (u ++ [35]) = s at *
  go_enter Tryz.func152, Tryz.ntmps152
  go_upto_region 6 with (go_at_call 164; refine (KW.out _).mono ?_; rintro e W ⟨rfl, hb⟩; have HB := am hb; clear hb)
  have HN := am (below_drew (Below.refl W.heap.size W))
  refine startB (n := 12) (F := fun _ => False) (ds := []) (by kernel_rfl) rfl (fun hHeld => ?_)
  refine plan_ [.p 0 14, .p 1 15, .p 2 16, .p 5 19, .p 6 20, .p 7 21, .p 8 22, .p 9 23, .p 10 24] ?_
  repeat (first | refine jP ?_ | refine jW hHeld ?_ | refine jG ?_)
  refine planE ?_
  refine jO 3 (some 17) (fun K hK => ?_)
  refine kC Tryz.func120 #[.string (S t)] ?_
  refine (KS.out _).mono ?_
  rintro e Wn ⟨rfl, hb⟩
  replace HN := am (b_tr HN.out hb)
  clear hb
  refine ⟨_, rfl, ?_⟩
  refine hK.out _ _ (Kp.of HN.out) (fun hHeld => ?_)
  clear hK K
  refine jM 17 ?_
  refine jO 4 (some 18) (fun K hK => ?_)
  refine kC Tryz.func95 #[.int .i64 sm, .int .i64 16] ?_
  refine (KB.out _).mono ?_
  rintro e W2 ⟨rfl, hb⟩
  replace HN := am (b_tr HN.out hb)
  clear hb
  refine ⟨_, rfl, ?_⟩
  refine hK.out _ _ (Kp.of HN.out) (fun hHeld => ?_)
  clear hK K
  refine jM 18 ?_
  refine plan_ [.p 11 25] ?_
  repeat (first | refine jP ?_ | refine jW hHeld ?_ | refine jG ?_)
  refine planE ?_
  refine done_ (by kernel_rfl) ?_
  have HB2 := am (b_tr HB.out HN.out)
  clear HN hHeld HB KW KS KB
  cases c
  ·go_wp2
   go_ret2
   exact ⟨rfl, HB2.out⟩
  ·go_wp2
   go_ret2
   exact ⟨rfl, HB2.out⟩
end Go.Proofs.YtgcgglmmfgmaoaaGreat.PK
end
section
namespace Go.Proofs.YtgcgglmmfgmaoaaGreat.PK
open Go Go.RowKit Go.Proofs.YtgcgglmmfgmaoaaGreatW.PrintWords Go.Proofs.YtgcgglmmfgmaoaaGreatW.PrintLast Go.Proofs.YtgcgglmmfgmaoaaGreatW.PrintMore
attribute [local go_sem] max2_int min2_int max_two min_two
def openL (l : List UInt8) : Option (List UInt8) := if wholeL l = true then (if l.dropLast.length < 16 then none else if syn l.dropLast = 0 then some (l.dropLast.take (l.dropLast.length - 16)) else none) else none
theorem openL_bits {l b : List UInt8} (h : openL l = some b) : isBits b ∧ b.length ≤ l.length := by
 unfold openL at h
 split at h
 ·rename_i hw
  obtain ⟨w, hb, rfl⟩ := whole_bits l hw
  rw [List.dropLast_concat] at h
  split at h
  ·exact absurd h (by simp)
  ·split at h
   ·obtain rfl := Option.some.inj h
    exact ⟨fun c hc => hb c (List.mem_of_mem_take hc), by simp; omega⟩
   ·exact absurd h (by simp)
 ·exact absurd h (by simp)
theorem openL_law (l : List UInt8) : (∃ b, openL l = some b ∧ openE l = (S b, 0)) ∨ (openL l = none ∧ ∃ c, c ≠ 0 ∧ openE l = (S [], c)) := by
 unfold openL openE openW
 cases hw : wholeL l with
 | true =>
  rw [if_pos rfl, if_pos rfl]
  by_cases h16 : l.dropLast.length < 16
  ·rw [if_pos h16, if_pos h16]; exact .inr ⟨rfl, 3, by decide, rfl⟩
  ·rw [if_neg h16, if_neg h16]
   by_cases hs : syn l.dropLast = 0
   ·rw [if_pos hs, if_pos hs]; exact .inl ⟨_, rfl, rfl⟩
   ·rw [if_neg hs, if_neg hs]; exact .inr ⟨rfl, 5, by decide, rfl⟩
 | false => exact .inr ⟨rfl, 4, by decide, rfl⟩
theorem open_yes (l b : List UInt8) (hl : l.length ≤ 900) (h : openL l = some b) (w : World) :
  Calls Tryz.prog 152 #[.string (S l)] w fun e w' => e = .returned (.tuple #[.string (S b), .int .i64 0]) ∧ Below w.heap.size w w' := by
 rcases openL_law l with ⟨b', h1, h2⟩ | ⟨h1, _⟩
 ·rw [h] at h1
  obtain rfl := Option.some.inj h1
  have := crc_open l hl w
  rw [h2] at this
  exact this
 ·rw [h] at h1; exact absurd h1 (by simp)
theorem open_no (l : List UInt8) (hl : l.length ≤ 900) (h : openL l = none) : ∃ c : Int, c ≠ 0 ∧ ∀ w : World,
  Calls Tryz.prog 152 #[.string (S l)] w fun e w' => e = .returned (.tuple #[.string (S []), .int .i64 c]) ∧ Below w.heap.size w w' := by
 rcases openL_law l with ⟨b', h1, h2⟩ | ⟨h1, c, hc, h2⟩
 ·rw [h] at h1; exact absurd h1 (by simp)
 ·exact ⟨c, hc, fun w => by have := crc_open l hl w; rw [h2] at this; exact this⟩
def itemsOf : Nat → List UInt8 → List S55
 | 0, _ => []
 | k + 1, l => itemOf l :: itemsOf k (l.drop 10)
theorem itemsOf_len : ∀ k l, (itemsOf k l).length = k
 | 0, _ => rfl
 | k + 1, l => by rw [itemsOf, List.length_cons, itemsOf_len]
theorem itemsOf_snoc : ∀ (k : Nat) (l : List UInt8), itemsOf (k + 1) l = itemsOf k l ++ [itemOf (l.drop (10 * k))]
 | 0, l => by simp [itemsOf]
 | k + 1, l => by
  rw [itemsOf, itemsOf_snoc k (l.drop 10), itemsOf, List.drop_drop]
  rw [show 10 + 10 * k = 10 * (k + 1) by omega]; rfl
def frameOf (b : List UInt8) : S117 := ⟨(val (b.take 2) 0 : Nat), (val ((b.drop 2).take 16) 0 : Nat), (val ((b.drop 18).take 6) 0 : Nat), itemOf (b.drop 24), itemsOf ((b.length - 34) / 10) (b.drop 34)⟩
def readBits (c : Cf) (b : List UInt8) : Option S117 :=
 if b.length < 34 then none
 else if ((b.length - 34 : Nat) : Int) ≠ 10 * frEchoes c (frameOf b).f0 (frameOf b).f2 then none
 else if frErr c (frameOf b) ≠ 0 then none else some (frameOf b)
def readL (c : Cf) (l : List UInt8) : Option S117 := (openL l).bind (readBits c)
end Go.Proofs.YtgcgglmmfgmaoaaGreat.PK
end
section
namespace Go.Proofs.YtgcgglmmfgmaoaaGreat.PK
open Go Go.RowKit Go.Proofs.YtgcgglmmfgmaoaaGreatW.PrintWords Go.Proofs.YtgcgglmmfgmaoaaGreatW.PrintLast Go.Proofs.YtgcgglmmfgmaoaaGreatW.PrintMore
attribute [local go_sem] max2_int min2_int max_two min_two
theorem info_item_ : (Tryz.prog.info? 55).map (fun i => (i.zero, i.size, i.bytes)) = some (some (.agg #[(.int .i64 0), (.int .i64 0)]), 2, 16) := by kernel_rfl
theorem eqln_item (ad : Addr) (n c : Nat) (W : World) : (binOp .eql 71 (.slice (some ad) n c) (.slice none 0 0)).run Tryz.prog W = .ok (.bool false) W := by kernel_rfl
theorem eqly_item (n c : Nat) (W : World) : (binOp .eql 71 (.slice none n c) (.slice none 0 0)).run Tryz.prog W = .ok (.bool true) W := by kernel_rfl
theorem clone_item (A0 : Option Addr) (c0 : Nat) (l0 : List S55) (hl : l0.length ≤ 1000000) (w : World) (hr0 : Kd.C k55 w A0 l0.length l0) (hc0 : l0.length ≤ c0) :
  Calls Tryz.prog 52 #[.slice A0 l0.length c0] w fun e w' => ∃ v0_ : Value, e = .returned (v0_) ∧ Kd.R k55 55 w' w.heap.size (fun _ => True) v0_ l0 ∧ Below w.heap.size w w' := by
 cases A0 with
 | none =>
  have h0 : l0 = [] := by
   obtain ⟨_, _, hrow⟩ := hr0
   match l0, hrow with
   | [], _ => rfl
   | x :: l, hrow =>
    obtain ⟨ad, e, _⟩ := hrow (by simp)
    exact absurd e (by simp)
  subst h0
  clear hr0 hc0 hl
  have hy := eqly_item
  go_enter Tryz.func52, Tryz.ntmps52
  go_wp2
  go_ret
  exact ⟨_, rfl, Kd.R_nil _ _ _ _ _, Below.refl _ _⟩
 | some ad =>
  have HR := am hr0
  have HL := am hl
  clear hr0 hc0 hl
  have hy := eqln_item
  go_enter Tryz.func52, Tryz.ntmps52
  go_wp2_with (first
   | ((with_reducible refine gate_dst (N := 5) rfl ?_); refine Kd.R_lit k55 (w0 := w) w.heap.size 55 ?hg (N := 5) ?hd (xs := ([] : List S55)) (inner := []) (ok := fun _ => True) (okp := fun _ => True) ?hr ?hp (fun _ hk => hk) trivial (Below.refl _ _) (Nat.le_refl _) (by simp) ?_; (case hd => rfl); (case hg => rfl); (case hr => first | (go_simp; done) | (go_simp; rfl)); (case hp => exact (Reps.none _ _)); intro v5 w5 ho hb hg_ hnew_; clear hg_ hnew_; have HO := am ho; have HB := am hb; clear ho hb)
   | ((with_reducible refine gate_builtin (b := .append) (xs := #[.tmp 5, .tmp 6]) rfl ?_); at_builtin; refine Kd.R_append_rows k55 (w0 := w) w.heap.size rfl (.tmp 5) (.tmp 6) 71 55 (.agg #[(.int .i64 0), (.int .i64 0)]) 16 rfl Tryz.underlying71 info_item_ rfl (by decide) (by omega) v5 [] l0 (some ad) l0.length c0 (fun _ => True) (fun _ => False) rfl rfl HO.out (Kd.C_below HR.out HB.out) (fun x cs hx => by obtain rfl := k55_open hx; exact k55_mkM _ _ _ x) (fun _ hk => hk.elim) (fun _ _ => trivial) HB.out HB.out.size (by have := HL.out; simp; omega) ?_; intro v6 w6 ho hb hg_ hat_; clear hg_ hat_; have HO6 := am ho; have HB6 := am hb; clear ho hb))
  go_ret
  exact ⟨_, rfl, HO6.out, HB6.out⟩
theorem info_call_ : (Tryz.prog.info? 52).map (fun i => (i.zero, i.size, i.bytes)) = some (some (.agg #[(.int .i64 0), (.int .i64 0), (.int .i64 0), (.int .i64 0)]), 4, 32) := by kernel_rfl
theorem eqln_call (ad : Addr) (n c : Nat) (W : World) : (binOp .eql 34 (.slice (some ad) n c) (.slice none 0 0)).run Tryz.prog W = .ok (.bool false) W := by kernel_rfl
theorem eqly_call (n c : Nat) (W : World) : (binOp .eql 34 (.slice none n c) (.slice none 0 0)).run Tryz.prog W = .ok (.bool true) W := by kernel_rfl
theorem clone_call (A0 : Option Addr) (c0 : Nat) (l0 : List S52) (hl : l0.length ≤ 1000000) (w : World) (hr0 : Kd.C k52 w A0 l0.length l0) (hc0 : l0.length ≤ c0) :
  Calls Tryz.prog 39 #[.slice A0 l0.length c0] w fun e w' => ∃ v0_ : Value, e = .returned (v0_) ∧ Kd.R k52 52 w' w.heap.size (fun _ => True) v0_ l0 ∧ Below w.heap.size w w' := by
 cases A0 with
 | none =>
  have h0 : l0 = [] := by
   obtain ⟨_, _, hrow⟩ := hr0
   match l0, hrow with
   | [], _ => rfl
   | x :: l, hrow =>
    obtain ⟨ad, e, _⟩ := hrow (by simp)
    exact absurd e (by simp)
  subst h0
  clear hr0 hc0 hl
  have hy := eqly_call
  go_enter Tryz.func39, Tryz.ntmps39
  go_wp2
  go_ret
  exact ⟨_, rfl, Kd.R_nil _ _ _ _ _, Below.refl _ _⟩
 | some ad =>
  have HR := am hr0
  have HL := am hl
  clear hr0 hc0 hl
  have hy := eqln_call
  go_enter Tryz.func39, Tryz.ntmps39
  go_wp2_with (first
   | ((with_reducible refine gate_dst (N := 5) rfl ?_); refine Kd.R_lit k52 (w0 := w) w.heap.size 52 ?hg (N := 5) ?hd (xs := ([] : List S52)) (inner := []) (ok := fun _ => True) (okp := fun _ => True) ?hr ?hp (fun _ hk => hk) trivial (Below.refl _ _) (Nat.le_refl _) (by simp) ?_; (case hd => rfl); (case hg => rfl); (case hr => first | (go_simp; done) | (go_simp; rfl)); (case hp => exact (Reps.none _ _)); intro v5 w5 ho hb hg_ hnew_; clear hg_ hnew_; have HO := am ho; have HB := am hb; clear ho hb)
   | ((with_reducible refine gate_builtin (b := .append) (xs := #[.tmp 5, .tmp 6]) rfl ?_); at_builtin; refine Kd.R_append_rows k52 (w0 := w) w.heap.size rfl (.tmp 5) (.tmp 6) 34 52 (.agg #[(.int .i64 0), (.int .i64 0), (.int .i64 0), (.int .i64 0)]) 32 rfl Tryz.underlying34 info_call_ rfl (by decide) (by omega) v5 [] l0 (some ad) l0.length c0 (fun _ => True) (fun _ => False) rfl rfl HO.out (Kd.C_below HR.out HB.out) (fun x cs hx => by obtain rfl := k52_open hx; exact k52_mkM _ _ _ x) (fun _ hk => hk.elim) (fun _ _ => trivial) HB.out HB.out.size (by have := HL.out; simp; omega) ?_; intro v6 w6 ho hb hg_ hat_; clear hg_ hat_; have HO6 := am ho; have HB6 := am hb; clear ho hb))
  go_ret
  exact ⟨_, rfl, HO6.out, HB6.out⟩
theorem info_act_ : (Tryz.prog.info? 83).map (fun i => (i.zero, i.size, i.bytes)) = some (some (.agg #[(.int .i64 0), (.int .i64 0), (.string ⟨#[]⟩)]), 3, 32) := by kernel_rfl
theorem eqln_act (ad : Addr) (n c : Nat) (W : World) : (binOp .eql 25 (.slice (some ad) n c) (.slice none 0 0)).run Tryz.prog W = .ok (.bool false) W := by kernel_rfl
theorem eqly_act (n c : Nat) (W : World) : (binOp .eql 25 (.slice none n c) (.slice none 0 0)).run Tryz.prog W = .ok (.bool true) W := by kernel_rfl
theorem clone_act (A0 : Option Addr) (c0 : Nat) (l0 : List S83) (hl : l0.length ≤ 1000000) (w : World) (hr0 : Kd.C k83 w A0 l0.length l0) (hc0 : l0.length ≤ c0) :
  Calls Tryz.prog 40 #[.slice A0 l0.length c0] w fun e w' => ∃ v0_ : Value, e = .returned (v0_) ∧ Kd.R k83 83 w' w.heap.size (fun _ => True) v0_ l0 ∧ Below w.heap.size w w' := by
 cases A0 with
 | none =>
  have h0 : l0 = [] := by
   obtain ⟨_, _, hrow⟩ := hr0
   match l0, hrow with
   | [], _ => rfl
   | x :: l, hrow =>
    obtain ⟨ad, e, _⟩ := hrow (by simp)
    exact absurd e (by simp)
  subst h0
  clear hr0 hc0 hl
  have hy := eqly_act
  go_enter Tryz.func40, Tryz.ntmps40
  go_wp2
  go_ret
  exact ⟨_, rfl, Kd.R_nil _ _ _ _ _, Below.refl _ _⟩
 | some ad =>
  have HR := am hr0
  have HL := am hl
  clear hr0 hc0 hl
  have hy := eqln_act
  go_enter Tryz.func40, Tryz.ntmps40
  go_wp2_with (first
   | ((with_reducible refine gate_dst (N := 5) rfl ?_); refine Kd.R_lit k83 (w0 := w) w.heap.size 83 ?hg (N := 5) ?hd (xs := ([] : List S83)) (inner := []) (ok := fun _ => True) (okp := fun _ => True) ?hr ?hp (fun _ hk => hk) trivial (Below.refl _ _) (Nat.le_refl _) (by simp) ?_; (case hd => rfl); (case hg => rfl); (case hr => first | (go_simp; done) | (go_simp; rfl)); (case hp => exact (Reps.none _ _)); intro v5 w5 ho hb hg_ hnew_; clear hg_ hnew_; have HO := am ho; have HB := am hb; clear ho hb)
   | ((with_reducible refine gate_builtin (b := .append) (xs := #[.tmp 5, .tmp 6]) rfl ?_); at_builtin; refine Kd.R_append_rows k83 (w0 := w) w.heap.size rfl (.tmp 5) (.tmp 6) 25 83 (.agg #[(.int .i64 0), (.int .i64 0), (.string ⟨#[]⟩)]) 32 rfl Tryz.underlying25 info_act_ rfl (by decide) (by omega) v5 [] l0 (some ad) l0.length c0 (fun _ => True) (fun _ => False) rfl rfl HO.out (Kd.C_below HR.out HB.out) (fun x cs hx => by obtain rfl := k83_open hx; exact k83_mkM _ _ _ x) (fun _ hk => hk.elim) (fun _ _ => trivial) HB.out HB.out.size (by have := HL.out; simp; omega) ?_; intro v6 w6 ho hb hg_ hat_; clear hg_ hat_; have HO6 := am ho; have HB6 := am hb; clear ho hb))
  go_ret
  exact ⟨_, rfl, HO6.out, HB6.out⟩
theorem info_side_ : (Tryz.prog.info? 127).map (fun i => (i.zero, i.size, i.bytes)) = some (some (.agg #[(.string ⟨#[]⟩), (.string ⟨#[]⟩), (.string ⟨#[]⟩), (.int .i64 0)]), 4, 56) := by kernel_rfl
theorem eqln_side (ad : Addr) (n c : Nat) (W : World) : (binOp .eql 92 (.slice (some ad) n c) (.slice none 0 0)).run Tryz.prog W = .ok (.bool false) W := by kernel_rfl
theorem eqly_side (n c : Nat) (W : World) : (binOp .eql 92 (.slice none n c) (.slice none 0 0)).run Tryz.prog W = .ok (.bool true) W := by kernel_rfl
theorem clone_side (A0 : Option Addr) (c0 : Nat) (l0 : List S127) (hl : l0.length ≤ 1000000) (w : World) (hr0 : Kd.C k127 w A0 l0.length l0) (hc0 : l0.length ≤ c0) :
  Calls Tryz.prog 102 #[.slice A0 l0.length c0] w fun e w' => ∃ v0_ : Value, e = .returned (v0_) ∧ Kd.R k127 127 w' w.heap.size (fun _ => True) v0_ l0 ∧ Below w.heap.size w w' := by
 cases A0 with
 | none =>
  have h0 : l0 = [] := by
   obtain ⟨_, _, hrow⟩ := hr0
   match l0, hrow with
   | [], _ => rfl
   | x :: l, hrow =>
    obtain ⟨ad, e, _⟩ := hrow (by simp)
    exact absurd e (by simp)
  subst h0
  clear hr0 hc0 hl
  have hy := eqly_side
  go_enter Tryz.func102, Tryz.ntmps102
  go_wp2
  go_ret
  exact ⟨_, rfl, Kd.R_nil _ _ _ _ _, Below.refl _ _⟩
 | some ad =>
  have HR := am hr0
  have HL := am hl
  clear hr0 hc0 hl
  have hy := eqln_side
  go_enter Tryz.func102, Tryz.ntmps102
  go_wp2_with (first
   | ((with_reducible refine gate_dst (N := 5) rfl ?_); refine Kd.R_lit k127 (w0 := w) w.heap.size 127 ?hg (N := 5) ?hd (xs := ([] : List S127)) (inner := []) (ok := fun _ => True) (okp := fun _ => True) ?hr ?hp (fun _ hk => hk) trivial (Below.refl _ _) (Nat.le_refl _) (by simp) ?_; (case hd => rfl); (case hg => rfl); (case hr => first | (go_simp; done) | (go_simp; rfl)); (case hp => exact (Reps.none _ _)); intro v5 w5 ho hb hg_ hnew_; clear hg_ hnew_; have HO := am ho; have HB := am hb; clear ho hb)
   | ((with_reducible refine gate_builtin (b := .append) (xs := #[.tmp 5, .tmp 6]) rfl ?_); at_builtin; refine Kd.R_append_rows k127 (w0 := w) w.heap.size rfl (.tmp 5) (.tmp 6) 92 127 (.agg #[(.string ⟨#[]⟩), (.string ⟨#[]⟩), (.string ⟨#[]⟩), (.int .i64 0)]) 56 rfl Tryz.underlying92 info_side_ rfl (by decide) (by omega) v5 [] l0 (some ad) l0.length c0 (fun _ => True) (fun _ => False) rfl rfl HO.out (Kd.C_below HR.out HB.out) (fun x cs hx => by obtain rfl := k127_open hx; exact k127_mkM _ _ _ x) (fun _ hk => hk.elim) (fun _ _ => trivial) HB.out HB.out.size (by have := HL.out; simp; omega) ?_; intro v6 w6 ho hb hg_ hat_; clear hg_ hat_; have HO6 := am ho; have HB6 := am hb; clear ho hb))
  go_ret
  exact ⟨_, rfl, HO6.out, HB6.out⟩
end Go.Proofs.YtgcgglmmfgmaoaaGreat.PK
end
section
namespace Go.Proofs.YtgcgglmmfgmaoaaGreat.PK
open Go Go.RowKit Go.Proofs.YtgcgglmmfgmaoaaGreatW.PrintWords Go.Proofs.YtgcgglmmfgmaoaaGreatW.PrintLast Go.Proofs.YtgcgglmmfgmaoaaGreatW.PrintMore
attribute [local go_sem] max2_int min2_int max_two min_two
def RdNo (w : World) (e : Ending) (w' : World) : Prop := (∃ k : Int, k ≠ 0 ∧ e = .returned (.tuple #[.agg #[.int .i64 0, .int .i64 0, .int .i64 0, .int .i64 0, .int .i64 0, .slice none 0 0], .int .i64 k])) ∧ Below w.heap.size w w'
def RdYes (f : S117) (w : World) (e : Ending) (w' : World) : Prop := (∃ v : Value, e = .returned (.tuple #[.agg #[.int .i64 f.f0, .int .i64 f.f1, .int .i64 f.f2, .int .i64 f.f3.f0, .int .i64 f.f3.f1, v], .int .i64 0]) ∧ Kd.R k55 55 w' w.heap.size (fun _ => True) v f.f4) ∧ Below w.heap.size w w'
theorem read_shut (c : Cf) (l : List UInt8) (hl : l.length ≤ 900) (h : openL l = none) (A : Option Addr) (m : Nat) (w : World) :
  Calls Tryz.prog 144 #[c.v A m, .string (S l)] w (RdNo w) := by
 obtain ⟨code, hc, KO⟩ := open_no l hl h
 have hb : (code != 0) = true := by rw [bne_iff_ne]; exact hc
 have HC := am hc
 have hu := Tryz.underlying117
 clear h hc
 generalize S l = s at *
 generalize S [] = s0 at *
 go_enter Tryz.func144, Tryz.ntmps144
 have hz : (w.alloc (.cells #[.int .i64 c.n, .int .i64 c.pi, .int .i64 c.e, .int .i64 c.g, .int .i64 c.first, .slice A c.pairs.length m] 24)).heap.size = w.heap.size + 1 := by simp
 have hG0 := blk_new (w.alloc (.cells #[.int .i64 c.n, .int .i64 c.pi, .int .i64 c.e, .int .i64 c.g, .int .i64 c.first, .slice A c.pairs.length m] 24)) (.cells #[.int .i64 0, .int .i64 0, .int .i64 0, .int .i64 0, .int .i64 0, .slice none 0 0] 117)
 rw [hz] at hG0
 have LG := am hG0
 clear hz hG0
 go_wp2_with (first
  | (go_at_call 152; ((with_reducible refine (KO _).mono ?_); rintro e W ⟨rfl, hb⟩; have LB := am (b_ac (b_ac hb)); have hG := am (blk_below LG.out hb); clear hb))
  | ((with_reducible refine gate_ (.store 117 (.tmp 4) (.tmp 17)) rfl ?_); refine store_part rfl 117 (.tmp 4) (.tmp 17) rfl (w.heap.size + 1) 0 117 #[.int .i64 0, .int .i64 0, .int .i64 0, .int .i64 0, .int .i64 0, .slice none 0 0] [.int .i64 0, .int .i64 0, .int .i64 0, .int .i64 0, .int .i64 0, .slice none 0 0] rfl rfl hG.out (by simp) info_frame (by simp [Value.oneCell']) ?_; intro W2 hG2 hK2; have G2 := am hG2; have K2 := am hK2; clear hG2 hK2))
 refine bodyPost_ret (v := .tuple #[.agg #[.int .i64 0, .int .i64 0, .int .i64 0, .int .i64 0, .int .i64 0, .slice none 0 0], .int .i64 code]) (results_ct Tryz.results144 _ W2 _ _ _ _ _ rfl G2.out hu rfl info_frame) rfl ⟨⟨code, HC.out, rfl⟩, ?_⟩
 exact (show Kp (fun k => w.heap.size ≤ k) w W2 from (Kp.of LB.out).trans (K2.out.mono (fun i _ e => by rw [e]; omega))).below (Nat.le_refl _) (fun i hi => by omega)
def rdLen (w : World) (rb : Nat) : Nat := match w.cell? ⟨rb, 0, none⟩ with
 | some (.string s) => s.size
 | _ => 0
theorem rdLen_eq {w : World} {rb : Nat} {s : ByteArray} (h : w.heap[rb]? = some (.cells #[.string s] 263 (0, 0))) : rdLen w rb = s.size := by
 unfold rdLen
 rw [show w.cell? ⟨rb, 0, none⟩ = some (.string s) from (blk_cell h 0).trans rfl]
theorem read_short (c : Cf) (l b : List UInt8) (hl : l.length ≤ 900) (h : openL l = some b) (h34 : b.length < 34) (A : Option Addr) (m : Nat) (w : World) :
  Calls Tryz.prog 144 #[c.v A m, .string (S l)] w (RdNo w) := by
 have KO := fun W => open_yes l b hl h W
 have hsz := S_size b
 have hu := Tryz.underlying117
 have hd : decide ((S b).size < 34) = true := decide_eq_true (by omega)
 have hd2 : decide (((S b).size : Int) < 34) = true := decide_eq_true (by omega)
 have hd3 : (S b).size < 34 := by omega
 have hz : (w.alloc (.cells #[.int .i64 c.n, .int .i64 c.pi, .int .i64 c.e, .int .i64 c.g, .int .i64 c.first, .slice A c.pairs.length m] 24)).heap.size = w.heap.size + 1 := by simp
 have hG0 := blk_new (w.alloc (.cells #[.int .i64 c.n, .int .i64 c.pi, .int .i64 c.e, .int .i64 c.g, .int .i64 c.first, .slice A c.pairs.length m] 24)) (.cells #[.int .i64 0, .int .i64 0, .int .i64 0, .int .i64 0, .int .i64 0, .slice none 0 0] 117)
 rw [hz] at hG0
 have LG := am hG0
 clear hz hG0 h hsz h34
 generalize S l = s at *
 generalize S b = sb at *
 go_enter Tryz.func144, Tryz.ntmps144
 go_wp2_with (first
  | (go_at_call 152; ((with_reducible refine (KO _).mono ?_); rintro e W ⟨rfl, hb⟩; have LB := am (b_ac (b_ac hb)); have hG := am (blk_below LG.out hb); clear hb))
  | ((with_reducible refine gate_ (.store 117 (.tmp 4) (.tmp 22)) rfl ?_); refine store_part rfl 117 (.tmp 4) (.tmp 22) rfl (w.heap.size + 1) 0 117 #[.int .i64 0, .int .i64 0, .int .i64 0, .int .i64 0, .int .i64 0, .slice none 0 0] [.int .i64 0, .int .i64 0, .int .i64 0, .int .i64 0, .int .i64 0, .slice none 0 0] rfl rfl hG.out (by simp) info_frame (by simp [Value.oneCell']) ?_; intro W2 hG2 hK2; have G2 := am hG2; have K2 := am hK2; clear hG2 hK2))
 refine bodyPost_ret (v := .tuple #[.agg #[.int .i64 0, .int .i64 0, .int .i64 0, .int .i64 0, .int .i64 0, .slice none 0 0], .int .i64 3]) (results_ct Tryz.results144 _ W2 _ _ _ _ _ rfl G2.out hu rfl info_frame) rfl ⟨⟨3, by decide, rfl⟩, ?_⟩
 exact below_kp LB.out K2.out (by omega) LB.out.size
theorem read_long (c : Cf) (hc : c.OK) (l b : List UInt8) (hl : l.length ≤ 900) (h : openL l = some b) (h34 : ¬ b.length < 34) (A : Option Addr) (m : Nat) (w : World) (hr : c.C w A m) (Post : Ending → World → Prop)
  (hno : readBits c b = none → ∀ e w', RdNo w e w' → Post e w') (hyes : readBits c b = some (frameOf b) → ∀ e w', RdYes (frameOf b) w e w' → Post e w') :
  Calls Tryz.prog 144 #[c.v A m, .string (S l)] w Post := by
 have KO := fun W => open_yes l b hl h W
 obtain ⟨hbits, hbl⟩ := openL_bits h
 have hsz := S_size b
 have hsz2 : ∀ q, isBits (b.drop q) := fun q x hx => hbits x (List.mem_of_mem_drop hx)
 have hu := Tryz.underlying117
 have hd : decide ((S b).size < 34) = false := decide_eq_false (by omega)
 have hd2 : decide (((S b).size : Int) < 34) = false := decide_eq_false (by omega)
 have hd3 : ¬ (S b).size < 34 := by omega
 have hz : (w.alloc (.cells #[.int .i64 c.n, .int .i64 c.pi, .int .i64 c.e, .int .i64 c.g, .int .i64 c.first, .slice A c.pairs.length m] 24)).heap.size = w.heap.size + 1 := by simp
 have hG0 := blk_new (w.alloc (.cells #[.int .i64 c.n, .int .i64 c.pi, .int .i64 c.e, .int .i64 c.g, .int .i64 c.first, .slice A c.pairs.length m] 24)) (.cells #[.int .i64 0, .int .i64 0, .int .i64 0, .int .i64 0, .int .i64 0, .slice none 0 0] 117)
 have hC0 := blk_alloc (blk_new w (.cells #[.int .i64 c.n, .int .i64 c.pi, .int .i64 c.e, .int .i64 c.g, .int .i64 c.first, .slice A c.pairs.length m] 24)) (.cells #[.int .i64 0, .int .i64 0, .int .i64 0, .int .i64 0, .int .i64 0, .slice none 0 0] 117)
 rw [hz] at hG0
 have LG := am hG0
 have LC := am hC0
 have K2 : ∀ rb W, W.heap[rb]? = some (.cells #[.string (S b)] 263 (0, 0)) → Calls Tryz.prog 153 #[.pointer (some ⟨rb, 0, none⟩), .int .i64 2] W fun e w' => e = .returned (.int .i64 (frameOf b).f0) ∧ w'.heap[rb]? = some (.cells #[.string (S (b.drop 2))] 263 (0, 0)) ∧ Kp (fun i => i = rb) W w' := fun rb W h => reader_next rb b hbits 2 (by omega) (by omega) (by omega) W h
 have K16 : ∀ rb W, W.heap[rb]? = some (.cells #[.string (S (b.drop 2))] 263 (0, 0)) → Calls Tryz.prog 153 #[.pointer (some ⟨rb, 0, none⟩), .int .i64 16] W fun e w' => e = .returned (.int .i64 (frameOf b).f1) ∧ w'.heap[rb]? = some (.cells #[.string (S (b.drop 18))] 263 (0, 0)) ∧ Kp (fun i => i = rb) W w' := fun rb W h => by
  have := reader_next rb (b.drop 2) (hsz2 2) 16 (by rw [List.length_drop]; omega) (by omega) (by rw [List.length_drop]; omega) W h
  rw [List.drop_drop] at this
  exact this
 have K6 : ∀ rb W, W.heap[rb]? = some (.cells #[.string (S (b.drop 18))] 263 (0, 0)) → Calls Tryz.prog 153 #[.pointer (some ⟨rb, 0, none⟩), .int .i64 6] W fun e w' => e = .returned (.int .i64 (frameOf b).f2) ∧ w'.heap[rb]? = some (.cells #[.string (S (b.drop 24))] 263 (0, 0)) ∧ Kp (fun i => i = rb) W w' := fun rb W h => by
  have := reader_next rb (b.drop 18) (hsz2 18) 6 (by rw [List.length_drop]; omega) (by omega) (by rw [List.length_drop]; omega) W h
  rw [List.drop_drop] at this
  exact this
 have KI : ∀ rb W, W.heap[rb]? = some (.cells #[.string (S (b.drop 24))] 263 (0, 0)) → Calls Tryz.prog 154 #[.pointer (some ⟨rb, 0, none⟩)] W fun e w' => e = .returned (.agg #[.int .i64 (frameOf b).f3.f0, .int .i64 (frameOf b).f3.f1]) ∧ w'.heap[rb]? = some (.cells #[.string (S (b.drop 34))] 263 (0, 0)) ∧ Kp (fun i => i = rb) W w' := fun rb W h => by
  have := reader_item rb (b.drop 24) (hsz2 24) (by rw [List.length_drop]; omega) (by rw [List.length_drop]; omega) W h
  rw [List.drop_drop] at this
  exact this
 clear hz hG0 hC0 h hsz
 generalize S l = s at *
 generalize hsb : S b = sb at *
 go_enter Tryz.func144, Tryz.ntmps144
 go_wp2_with (first
  | (go_at_call 152; ((with_reducible refine (KO _).mono ?_); rintro e W ⟨rfl, hb⟩; have LB := am (b_ac (b_ac hb)); have hG := am (blk_below LG.out hb); have hCC := am (blk_below LC.out hb); have hgl := am (show w.heap.size + 1 < W.heap.size from Nat.lt_of_lt_of_le (by simp) hb.size); clear hb))
  | (go_at_call 153; ((with_reducible refine (K2 _ _ (blk_new W _)).mono ?_); rintro e V2 ⟨rfl, ha, hk⟩; have A2 := am ha; have B2 := am ((Kp.of (b_al W _)).trans hk); clear ha hk))
  | (go_at_call 153; ((with_reducible refine (K16 _ _ A2.out).mono ?_); rintro e V3 ⟨rfl, ha, hk⟩; have A3 := am ha; have B3 := am (B2.out.trans hk); clear ha hk))
  | (go_at_call 153; ((with_reducible refine (K6 _ _ A3.out).mono ?_); rintro e V4 ⟨rfl, ha, hk⟩; have A4 := am ha; have B4 := am (B3.out.trans hk); clear ha hk))
  | (go_at_call 154; ((with_reducible refine (KI _ _ A4.out).mono ?_); rintro e V5 ⟨rfl, ha, hk⟩; have A5 := am ha; have B5 := am (B4.out.trans hk); clear ha hk)))
 have hF : frameOf b = ⟨(frameOf b).f0, (frameOf b).f1, (frameOf b).f2, ⟨(frameOf b).f3.f0, (frameOf b).f3.f1⟩, itemsOf ((b.length - 34) / 10) (b.drop 34)⟩ := rfl
 have hrB : readBits c b = if ((b.length - 34 : Nat) : Int) ≠ 10 * frEchoes c (frameOf b).f0 (frameOf b).f2 then none else if frErr c (frameOf b) ≠ 0 then none else some (frameOf b) := by unfold readBits; rw [if_neg h34]
 have hfk : 0 ≤ (frameOf b).f0 ∧ (frameOf b).f0 ≤ 3 := ⟨Int.natCast_nonneg _, by have := val_lt (b.take 2) 0 0 (fun x hx => hbits x (List.mem_of_mem_take hx)) (by decide); rw [List.length_take, Nat.min_eq_left (by omega)] at this; show ((val (b.take 2) 0 : Nat) : Int) ≤ 3; omega⟩
 have hfr : 0 ≤ (frameOf b).f1 ∧ (frameOf b).f1 ≤ 65535 := ⟨Int.natCast_nonneg _, by have := val_lt ((b.drop 2).take 16) 0 0 (fun x hx => hsz2 2 x (List.mem_of_mem_take hx)) (by decide); rw [List.length_take, List.length_drop, Nat.min_eq_left (by omega)] at this; show ((val ((b.drop 2).take 16) 0 : Nat) : Int) ≤ 65535; omega⟩
 have hfs : 0 ≤ (frameOf b).f2 ∧ (frameOf b).f2 ≤ 63 := ⟨Int.natCast_nonneg _, by have := val_lt ((b.drop 18).take 6) 0 0 (fun x hx => hsz2 18 x (List.mem_of_mem_take hx)) (by decide); rw [List.length_take, List.length_drop, Nat.min_eq_left (by omega)] at this; show ((val ((b.drop 18).take 6) 0 : Nat) : Int) ≤ 63; omega⟩
 have hrb : w.heap.size + 1 < W.heap.size := hgl.out
 have hWV : W.heap.size < V5.heap.size := by have := blk_lt A5.out; omega
 have qA := blk_alloc A5.out (.cells #[.int .i64 (frameOf b).f0, .int .i64 (frameOf b).f1, .int .i64 (frameOf b).f2, .int .i64 (frameOf b).f3.f0, .int .i64 (frameOf b).f3.f1, .slice none 0 0] 117)
 have qF := blk_new V5 (.cells #[.int .i64 (frameOf b).f0, .int .i64 (frameOf b).f1, .int .i64 (frameOf b).f2, .int .i64 (frameOf b).f3.f0, .int .i64 (frameOf b).f3.f1, .slice none 0 0] 117)
 have qG := blk_alloc (B5.out.blk hG.out (by show ¬ (w.heap.size + 1 = W.heap.size); omega)) (.cells #[.int .i64 (frameOf b).f0, .int .i64 (frameOf b).f1, .int .i64 (frameOf b).f2, .int .i64 (frameOf b).f3.f0, .int .i64 (frameOf b).f3.f1, .slice none 0 0] 117)
 have qC := blk_alloc (B5.out.blk hCC.out (by show ¬ (w.heap.size = W.heap.size); omega)) (.cells #[.int .i64 (frameOf b).f0, .int .i64 (frameOf b).f1, .int .i64 (frameOf b).f2, .int .i64 (frameOf b).f3.f0, .int .i64 (frameOf b).f3.f1, .slice none 0 0] 117)
 have qB := (below_kp LB.out B5.out (by omega) LB.out.size).alloc (by omega) (.cells #[.int .i64 (frameOf b).f0, .int .i64 (frameOf b).f1, .int .i64 (frameOf b).f2, .int .i64 (frameOf b).f3.f0, .int .i64 (frameOf b).f3.f1, .slice none 0 0] 117)
 have PF := am hF
 have PR := am hrB
 clear hF hrB K2 K16 K6 KI KO A2 A3 A4 A5 B2 B3 B4 B5 LG LC LB hG hCC hgl
 generalize (frameOf b).f0 = fk at *
 generalize (frameOf b).f1 = fr at *
 generalize (frameOf b).f2 = fs at *
 generalize (frameOf b).f3.f0 = pk at *
 generalize (frameOf b).f3.f1 = pv at *
 generalize V5.alloc (.cells #[.int .i64 fk, .int .i64 fr, .int .i64 fs, .int .i64 pk, .int .i64 pv, .slice none 0 0] 117) = W0 at *
 generalize V5.heap.size = fb at *
 generalize W.heap.size = rb at *
 generalize hg : w.heap.size = g at *
 have HG := am hg
 clear hg
 have QA := am qA
 have QF := am qF
 have QG := am qG
 have QC := am qC
 have QB := am qB
 have hC := am (hr.below (show Below w.heap.size w W0 from by rw [HG.out]; exact qB))
 have KE := fun W h => echoes_calls c hc fk fs A m W h
 have hec : 0 ≤ frEchoes c fk fs ∧ frEchoes c fk fs ≤ 15 := by
  unfold frEchoes Cf.slots
  have := hc.n6; have := hc.n12; have := hc.l3
  split <;> omega
 have hsz34 : (S (b.drop 34)).size = b.length - 34 := by rw [S_size, List.length_drop]
 generalize hs34 : S (b.drop 34) = s34 at *
 generalize hecd : frEchoes c fk fs = ec at *
 have hw1 : wrap64 (10 * ec) = 10 * ec := w64_q _ (by omega) (by omega)
 have LS : Aside0 (∀ w', Below W0.heap.size W0 w' → (fun w' => w'.cell? ⟨rb, 0, none⟩ = some (.string s34) ∧ w'.cell? ⟨g, 0, none⟩ = some (.int .i64 c.n) ∧ w'.cell? ⟨g, 1, none⟩ = some (.int .i64 c.pi) ∧ w'.cell? ⟨g, 2, none⟩ = some (.int .i64 c.e) ∧ w'.cell? ⟨g, 3, none⟩ = some (.int .i64 c.g) ∧ w'.cell? ⟨g, 4, none⟩ = some (.int .i64 c.first) ∧ w'.cell? ⟨g, 5, none⟩ = some (.slice A c.pairs.length m) ∧ w'.cell? ⟨fb, 0, none⟩ = some (.int .i64 fk) ∧ w'.cell? ⟨fb, 2, none⟩ = some (.int .i64 fs)) w') := ⟨fun w' hb => ⟨(blk_cell (blk_below QA.out hb) 0).trans rfl, (blk_cell (blk_below QC.out hb) 0).trans rfl, (blk_cell (blk_below QC.out hb) 1).trans rfl, (blk_cell (blk_below QC.out hb) 2).trans rfl, (blk_cell (blk_below QC.out hb) 3).trans rfl, (blk_cell (blk_below QC.out hb) 4).trans rfl, (blk_cell (blk_below QC.out hb) 5).trans rfl, (blk_cell (blk_below QF.out hb) 0).trans rfl, (blk_cell (blk_below QF.out hb) 2).trans rfl⟩⟩
 have HB := am (Below.refl W0.heap.size W0)
 have hS0 := LS.out W0.drew (below_drew (Below.refl _ _))
 have hr0 := am hr
 clear qA qF qG qC qB hr
 by_cases hm : ((b.length - 34 : Nat) : Int) = 10 * ec
 ·have hne : ((s34.size : Int) != 10 * ec) = false := by rw [hsz34, hm]; simp
  have hfin := PR.out.trans (if_neg (fun h => h hm))
  have HFIN := am hfin
  obtain ⟨nI, hnI⟩ : ∃ nI : Nat, b.length - 34 = 10 * nI := ⟨ec.toNat, by omega⟩
  have hq : (b.length - 34) / 10 = nI := by rw [hnI]; omega
  rw [hq] at PF
  have PF := PF
  clear hfin hq PR hm hsz34
  refine start_ (n := 13) (S := fun w' => w'.cell? ⟨rb, 0, none⟩ = some (.string s34) ∧ w'.cell? ⟨g, 0, none⟩ = some (.int .i64 c.n) ∧ w'.cell? ⟨g, 1, none⟩ = some (.int .i64 c.pi) ∧ w'.cell? ⟨g, 2, none⟩ = some (.int .i64 c.e) ∧ w'.cell? ⟨g, 3, none⟩ = some (.int .i64 c.g) ∧ w'.cell? ⟨g, 4, none⟩ = some (.int .i64 c.first) ∧ w'.cell? ⟨g, 5, none⟩ = some (.slice A c.pairs.length m) ∧ w'.cell? ⟨fb, 0, none⟩ = some (.int .i64 fk) ∧ w'.cell? ⟨fb, 2, none⟩ = some (.int .i64 fs)) (ds := []) #[false, false, false, false, false, false, false, false, false, false, false, false, false] (by kernel_rfl) rfl rfl ?st0 (fun hHeld => ?_)
  case st0 => exact hS0
  refine plan_ [.p 0 35, .p 1 36, .p 2 37, .t 3 38, .p 4 39, .t 5 40, .p 6 41, .t 7 42, .p 8 43, .t 9 44] ?_
  repeat (first | refine kP ?_ | refine kT hHeld ?_ | refine kG ?_)
  refine planE ?_
  refine jO 10 (some 45) (fun K hK => ?_)
  refine kC Tryz.func155 #[c.v A m, .int .i64 fk, .int .i64 fs] ?_
  with_reducible refine (KE _ (hC.out.below (by first | exact HB.out | exact below_drew HB.out | exact pw_below_drewN HB.out _))).mono ?_
  rintro e W3 ⟨rfl, hb⟩
  replace HB := am (b_tr (by first | exact HB.out | exact below_drew HB.out | exact pw_below_drewN HB.out _) hb)
  clear hb
  refine ⟨_, rfl, ?_⟩
  refine hK.out _ _ (LS.out _ HB.out) (fun hHeld => ?_)
  clear hK K
  refine kN ?_
  refine plan_ [.p 11 46, .p 12 47] ?_
  repeat (first | refine kP ?_ | refine kT hHeld ?_ | refine kG ?_)
  refine planE ?_
  refine done_ (by kernel_rfl) ?_
  have QA2 := am (blk_below QA.out HB.out)
  have QF2 := am (blk_below QF.out HB.out)
  have QG2 := am (blk_below QG.out HB.out)
  have QC2 := am (blk_below QC.out HB.out)
  have QB2 := am (QB.out.trans (HB.out.mono (by have := blk_lt QC.out; omega)))
  have hgz := blk_lt QC.out
  have hrlt := blk_lt QA.out
  have hflt := blk_lt QF.out
  subst hs34
  have HNI := am hnI
  clear hS0 LS HB QA QF QG QC QB hne hw1 hnI
  go_wp2
  generalize wrap64 (10 * ec) = zec
  generalize hsv : S (b.drop 34) = sv34
  have HSV := am hsv
  clear hsv
  generalize sv34.size = z34
  go_loopw [49] (fun _ w' => ∃ (k : Nat) (ve : Value), k ≤ nI ∧ Aside0 (w'.heap[rb]? = some (.cells #[.string (S (b.drop (34 + 10 * k)))] 263 (0, 0))) ∧ Aside0 (w'.heap[fb]? = some (.cells #[.int .i64 fk, .int .i64 fr, .int .i64 fs, .int .i64 pk, .int .i64 pv, ve] 117 (0, 0))) ∧ Aside0 (Kd.R k55 55 w' g (fun _ => True) ve (itemsOf k (b.drop 34))) ∧ Aside0 (w'.heap[g + 1]? = some (.cells #[.int .i64 0, .int .i64 0, .int .i64 0, .int .i64 0, .int .i64 0, .slice none 0 0] 117 (0, 0))) ∧ Aside0 (w'.heap[g]? = some (.cells #[.int .i64 c.n, .int .i64 c.pi, .int .i64 c.e, .int .i64 c.g, .int .i64 c.first, .slice A c.pairs.length m] 24 (0, 0))) ∧ Aside0 (Below g w w')) (fun _ w' => rdLen w' rb)
  case atStart => exact ⟨0, _, Nat.zero_le _, QA2, QF2, ⟨Kd.R_nil _ _ _ _ _⟩, QG2, QC2, QB2⟩
  case round =>
   clear QA2 QF2 QG2 QC2 QB2
   obtain ⟨k, ve, hk, hA, hFF, hR, hG, hCo, hB⟩ := hrel
   have c0 : wr.cell? ⟨rb, 0, none⟩ = some (.string (S (b.drop (34 + 10 * k)))) := (blk_cell hA.out 0).trans rfl
   have hlen : (b.drop (34 + 10 * k)).length = 10 * (nI - k) := by rw [List.length_drop]; have := HNI.out; omega
   obtain ⟨Ae, ce, hve⟩ := Kd.R_slice hR.out
   rw [itemsOf_len] at hve
   subst hve
   by_cases hlt : k < nI
   ·have he : (b.drop (34 + 10 * k)).isEmpty = false := by
     cases hq : b.drop (34 + 10 * k) with
     | nil => rw [hq] at hlen; simp at hlen; omega
     | cons x y => rfl
    have hmeas : Aside0 (10 * (nI - (k + 1)) < rdLen wr rb) := ⟨by rw [rdLen_eq hA.out, S_size, hlen]; omega⟩
    have hsnoc := itemsOf_snoc k (b.drop 34)
    rw [List.drop_drop] at hsnoc
    have HSN := am hsnoc
    have KIk : ∀ W, W.heap[rb]? = some (.cells #[.string (S (b.drop (34 + 10 * k)))] 263 (0, 0)) → Calls Tryz.prog 154 #[.pointer (some ⟨rb, 0, none⟩)] W fun e w' => e = .returned (.agg #[.int .i64 (itemOf (b.drop (34 + 10 * k))).f0, .int .i64 (itemOf (b.drop (34 + 10 * k))).f1]) ∧ w'.heap[rb]? = some (.cells #[.string (S (b.drop (34 + 10 * (k + 1))))] 263 (0, 0)) ∧ Kp (fun i => i = rb) W w' := fun W h => by
     have := reader_item rb (b.drop (34 + 10 * k)) (hsz2 _) (by rw [List.length_drop]; have := HNI.out; omega) (by rw [List.length_drop]; omega) W h
     rw [List.drop_drop, show 34 + 10 * k + 10 = 34 + 10 * (k + 1) by omega] at this
     exact this
    have hlen2 : (b.drop (34 + 10 * (k + 1))).length = 10 * (nI - (k + 1)) := by rw [List.length_drop]; have := HNI.out; omega
    have HL2 := am hlen2
    have hk1000 : Aside0 (k ≤ 1000) := ⟨by have := HNI.out; omega⟩
    clear hsnoc hlen hlen2
    generalize itemOf (b.drop (34 + 10 * k)) = xi at *
    obtain ⟨x0, x1⟩ := xi
    go_wp2
    have hS0 : wr.drew.cell? ⟨fb, 5, none⟩ = some (.slice Ae k ce) := (blk_cell (blk_drew hFF.out) 5).trans rfl
    refine start_ (n := 8) (S := fun w' => w'.cell? ⟨fb, 5, none⟩ = some (.slice Ae k ce)) (ds := [7]) #[false, false, false, false, false, false, false, false] (by kernel_rfl) rfl rfl ?st0 (fun hHeld => ?_)
    case st0 => exact hS0
    refine plan_ [.p 0 54, .t 1 55, .p 2 56] ?_
    repeat (first | refine kP ?_ | refine kT hHeld ?_ | refine kG ?_)
    refine planE ?_
    refine jO 3 (some 57) (fun K hK => ?_)
    refine kC Tryz.func154 #[.pointer (some ⟨rb, 0, none⟩)] ?_
    refine (KIk _ (blk_drew hA.out)).mono ?_
    rintro e V6 ⟨rfl, ha, hk2⟩
    have A6 := am ha
    have F6 := am (hk2.blk (blk_drew hFF.out) (show ¬ (fb = rb) by omega))
    have G6 := am (hk2.blk (blk_drew hG.out) (show ¬ (g + 1 = rb) by omega))
    have C6 := am (hk2.blk (blk_drew hCo.out) (show ¬ (g = rb) by omega))
    have R6 := am (R_kp (Kd.R_drew hR.out) (blk_drew hA.out) (by decide) hk2)
    have B6 := am (below_kp (below_drew hB.out) hk2 (show g ≤ rb by omega) (Nat.le_of_lt (blk_lt hCo.out)))
    clear ha hk2
    refine ⟨_, rfl, ?_⟩
    refine hK.out _ _ ((blk_cell F6.out 5).trans rfl) (fun hHeld => ?_)
    clear hK K
    refine kN ?_
    refine jO 4 (some 58) (fun K hK => ?_)
    refine event_step (w1 := V6.alloc (.cells #[.int .i64 x0, .int .i64 x1] 55)) (v := .slice (some ⟨V6.heap.size, 0, none⟩) 1 1) (by rfl) ?_ ?_
    ·go_simp
     (try rfl)
    refine hK.out _ _ ((blk_cell (blk_alloc F6.out _) 5).trans rfl) (fun hHeld => ?_)
    clear hK K
    refine kN ?_
    refine jO 5 (some 59) (fun K hK => ?_)
    refine Kd.R_append_step k55 (w0 := w) g (by rfl) (.tmp 55) (.tmp 58) 71 55 (.agg #[(.int .i64 0), (.int .i64 0)]) 16 rfl Tryz.underlying71 info_item_ rfl (by decide) (by omega) (.slice Ae k ce) (itemsOf k (b.drop 34)) ⟨x0, x1⟩ [.int .i64 x0, .int .i64 x1] (fun _ => True) (fun _ => False) rfl rfl (k55_mkM _ _ _ ⟨x0, x1⟩) (fun _ hk => hk.elim) (fun _ _ => trivial) R6.out B6.out (Nat.le_of_lt (blk_lt C6.out)) (by rw [itemsOf_len]; have := hk1000.out; omega) ?_
    intro v7 w7 ho hb hg_ hat_
    obtain ⟨A7, c7, rfl⟩ := Kd.R_slice ho
    rw [List.length_append, itemsOf_len, List.length_singleton] at ho
    have F7 := am (blk_grown F6.out hg_ (Kd.R_ne R6.out F6.out (by decide)))
    have A7r := am (blk_grown A6.out hg_ (Kd.R_ne R6.out A6.out (by decide)))
    have G7 := am (blk_grown G6.out hg_ (Kd.R_ne R6.out G6.out (by decide)))
    have C7 := am (blk_grown C6.out hg_ (Kd.R_ne R6.out C6.out (by decide)))
    have R7 := am ho
    have B7 := am hb
    have f7 := blk_frozen F7.out 5
    simp only [List.length_append, itemsOf_len, List.length_singleton]
    clear ho hb hg_ hat_
    refine hK.out _ _ ((blk_cell F7.out 5).trans rfl) (fun hHeld => ?_)
    clear hK K
    refine kN ?_
    refine plan_ [.p 6 60] ?_
    repeat (first | refine kP ?_ | refine kT hHeld ?_ | refine kG ?_)
    refine planE ?_
    refine jL 7 none (fun K hK => ?_)
    refine skip_ (w1 := ?_) (by rfl) rfl ?_ ?_
    rotate_left
    ·go_simp
     (try rfl)
    refine hK.out _ _ ?_
    clear hK K
    refine done_ (by kernel_rfl) ?_
    have F8 := am (blk_put F7.out 5 (.slice A7 (k + 1) c7) rfl)
    have A8 := am (blk_far A7r.out (p := ⟨fb, 5, none⟩) (Nat.ne_of_lt hWV) (.slice A7 (k + 1) c7))
    have G8 := am (blk_far G7.out (p := ⟨fb, 5, none⟩) (Nat.ne_of_lt (Nat.lt_trans hrb hWV)) (.slice A7 (k + 1) c7))
    have C8 := am (blk_far C7.out (p := ⟨fb, 5, none⟩) (show g ≠ fb by omega) (.slice A7 (k + 1) c7))
    have R8 := am (Kd.R_set R7.out F7.out (by decide) 5 (.slice A7 (k + 1) c7))
    have B8 := am (B7.out.setCell (p := ⟨fb, 5, none⟩) (show g ≤ fb by omega) (.slice A7 (k + 1) c7))
    clear F7 A7r G7 C7 R7 B7 hA hFF hR hG hCo hB
    go_roundw
    case rel =>
     (repeat apply Exists.intro)
     exact ⟨⟨k + 1, _, by omega, A8, F8, ⟨by rw [HSN.out]; exact R8.out⟩, G8, C8, B8⟩, rfl⟩
    case measure => rw [rdLen_eq A8.out, S_size, HL2.out]; exact hmeas.out
   ·obtain rfl : k = nI := by omega
    have he : (b.drop (34 + 10 * k)).isEmpty = true := by
     cases hq : b.drop (34 + 10 * k) with
     | nil => rfl
     | cons x y => rw [hq] at hlen; simp at hlen
    have hk1000 : k ≤ 1000 := by have := HNI.out; omega
    have KC := frame_Check c hc fk fs fr pk pv (itemsOf k (b.drop 34)) hfk.1 hfk.2 hfs.1 hfs.2 hfr.1 hfr.2 (by rw [itemsOf_len]; omega) A Ae m ce wr (hr0.out.below (show Below w.heap.size w wr from by rw [HG.out]; exact hB.out)) (by have h1 := (Kd.R_reads' hR.out).2.2; exact h1)
    rw [itemsOf_len, ← PF.out] at KC
    have hKC := am KC
    have hkc := (Kd.R_reads' hR.out).2.1
    have hcc := (Kd.R_reads' hR.out).2.2
    have HKC := am hkc
    have HCC := am hcc
    have hgw := blk_lt hCo.out
    clear KC hkc hcc hlen
    have hZ := HFIN.out
    generalize frErr c (frameOf b) = er at *
    by_cases her : er = 0
    ·have hb0 : (er != 0) = false := by rw [her]; rfl
     rw [if_neg (fun h => h her)] at hZ
     have HY := am (hyes hZ)
     subst her
     have KL := clone_item Ae ce (itemsOf k (b.drop 34)) (by rw [itemsOf_len]; omega)
     rw [itemsOf_len] at KL
     have hKL := am KL
     clear hZ HFIN hno hyes KL
     go_wp2_with (first
      | ((with_reducible refine gate_ (.load 24 (.tmp 2)) rfl ?_); refine wpList_load_row rfl 24 (.tmp 2) rfl g rfl _ _ _ _ hCo.out Tryz.underlying24 rfl info_conf ?_)
      | ((with_reducible refine gate_dst (N := 62) rfl ?_); refine wpList_load_row rfl 117 (.tmp 9) rfl fb rfl _ _ _ _ hFF.out Tryz.underlying117 rfl info_frame ?_)
      | (go_at_call 156; ((refine hKC.out.mono ?_); rintro e V1 ⟨rfl, hb⟩; have F1 := am (blk_below hFF.out hb); have G1 := am (blk_below hG.out hb); have C1 := am (Kd.C_below HCC.out hb); have B1 := am (hB.out.trans (hb.mono (Nat.le_of_lt hgw))); have Z1 := am (Nat.lt_of_lt_of_le hgw hb.size); clear hb; have c5 : V1.cell? ⟨fb, 5, none⟩ = some (.slice Ae k ce) := (blk_cell F1.out 5).trans rfl))
      | (go_at_call 52; ((refine (hKL.out _ (by have h1 := C1.out; rw [itemsOf_len] at h1; exact h1) (by have h1 := HKC.out; exact h1)).mono ?_); rintro e V2 ⟨v2, rfl, hv2, hb⟩; obtain ⟨A2, c2, rfl⟩ := Kd.R_slice hv2; rw [itemsOf_len] at hv2 ⊢; have F2 := am (blk_below F1.out hb); have G2 := am (blk_below G1.out hb); have B2 := am (B1.out.trans (hb.mono (Nat.le_of_lt Z1.out))); have R2 := am (Kd.R_lower hv2 (Nat.le_of_lt Z1.out)); have Z2 := am (Nat.lt_of_lt_of_le Z1.out hb.size); clear hv2 hb; have d5 : V2.cell? ⟨fb, 5, none⟩ = some (.slice Ae k ce) := (blk_cell F2.out 5).trans rfl; have f5 := blk_frozen F2.out 5))
      | ((with_reducible refine gate_dst (N := 72) rfl ?_); refine wpList_load_row rfl 117 (.tmp 9) rfl fb rfl _ _ _ _ (blk_put F2.out 5 _ rfl) Tryz.underlying117 rfl info_frame ?_)
      | ((with_reducible refine gate_ (.store 117 (.tmp 4) (.tmp 72)) rfl ?_); refine store_part rfl 117 (.tmp 4) (.tmp 72) rfl (g + 1) 0 117 #[.int .i64 fk, .int .i64 fr, .int .i64 fs, .int .i64 pk, .int .i64 pv, .slice A2 k c2] [.int .i64 0, .int .i64 0, .int .i64 0, .int .i64 0, .int .i64 0, .slice none 0 0] rfl rfl (blk_far G2.out (p := ⟨fb, 5, none⟩) (show g + 1 ≠ fb by omega) _) (by simp) info_frame (by simp [Value.oneCell']) ?_; intro V3 hG3 hK3; have G3 := am hG3; have K3 := am hK3; clear hG3 hK3))
     have HY2 : ∀ e w', RdYes ⟨fk, fr, fs, ⟨pk, pv⟩, itemsOf k (b.drop 34)⟩ w e w' → Post e w' := by rw [← PF.out]; exact HY.out
     have hF3 := blk_put F2.out 5 (.slice A2 k c2) rfl
     have hG2' := blk_far G2.out (p := ⟨fb, 5, none⟩) (show g + 1 ≠ fb by omega) (.slice A2 k c2)
     have hR3 := R_kp (Kd.R_set R2.out F2.out (by decide) 5 (.slice A2 k c2)) hG2' (by decide) K3.out
     have hB3 : Below g w V3 := below_kp (B2.out.setCell (p := ⟨fb, 5, none⟩) (show g ≤ fb by omega) (.slice A2 k c2)) K3.out (show g ≤ g + 1 by omega) (by have := Z2.out; simp; omega)
     refine bodyPost_ret (v := .tuple #[.agg #[.int .i64 fk, .int .i64 fr, .int .i64 fs, .int .i64 pk, .int .i64 pv, .slice A2 k c2], .int .i64 0]) (results_ct Tryz.results144 _ V3 _ _ _ _ _ rfl G3.out hu rfl info_frame) rfl (HY2 _ _ ⟨⟨_, rfl, ?_⟩, ?_⟩)
     ·rw [HG.out]; exact hR3
     ·rw [HG.out]; exact hB3
    ·have hb0 : (er != 0) = true := by rw [bne_iff_ne]; exact her
     rw [if_pos her] at hZ
     have HN := am (hno hZ)
     have HE := am her
     clear hZ HFIN hno hyes her
     go_wp2_with (first
      | ((with_reducible refine gate_ (.load 24 (.tmp 2)) rfl ?_); refine wpList_load_row rfl 24 (.tmp 2) rfl g rfl _ _ _ _ hCo.out Tryz.underlying24 rfl info_conf ?_)
      | ((with_reducible refine gate_dst (N := 62) rfl ?_); refine wpList_load_row rfl 117 (.tmp 9) rfl fb rfl _ _ _ _ hFF.out Tryz.underlying117 rfl info_frame ?_)
      | (go_at_call 156; ((refine hKC.out.mono ?_); rintro e V1 ⟨rfl, hb⟩; have G1 := am (blk_below hG.out hb); have B1 := am (hB.out.trans (hb.mono (Nat.le_of_lt hgw))); have Z1 := am (Nat.lt_of_lt_of_le hgw hb.size); clear hb))
      | ((with_reducible refine gate_ (.store 117 (.tmp 4) (.tmp 66)) rfl ?_); refine store_part rfl 117 (.tmp 4) (.tmp 66) rfl (g + 1) 0 117 #[.int .i64 0, .int .i64 0, .int .i64 0, .int .i64 0, .int .i64 0, .slice none 0 0] [.int .i64 0, .int .i64 0, .int .i64 0, .int .i64 0, .int .i64 0, .slice none 0 0] rfl rfl G1.out (by simp) info_frame (by simp [Value.oneCell']) ?_; intro V3 hG3 hK3; have G3 := am hG3; have K3 := am hK3; clear hG3 hK3))
     have hB3 : Below g w V3 := below_kp B1.out K3.out (show g ≤ g + 1 by omega) (Nat.le_of_lt Z1.out)
     refine bodyPost_ret (v := .tuple #[.agg #[.int .i64 0, .int .i64 0, .int .i64 0, .int .i64 0, .int .i64 0, .slice none 0 0], .int .i64 er]) (results_ct Tryz.results144 _ V3 _ _ _ _ _ rfl G3.out hu rfl info_frame) rfl (HN.out _ _ ⟨⟨er, HE.out, rfl⟩, ?_⟩)
     rw [HG.out]; exact hB3
 ·have hne : ((s34.size : Int) != 10 * ec) = true := by rw [hsz34, bne_iff_ne]; exact hm
  have hnone := PR.out.trans (if_pos hm)
  have HN := am (hno hnone)
  clear hm hnone hno hyes PR PF hsz34 hs34
  refine start_ (n := 13) (S := fun w' => w'.cell? ⟨rb, 0, none⟩ = some (.string s34) ∧ w'.cell? ⟨g, 0, none⟩ = some (.int .i64 c.n) ∧ w'.cell? ⟨g, 1, none⟩ = some (.int .i64 c.pi) ∧ w'.cell? ⟨g, 2, none⟩ = some (.int .i64 c.e) ∧ w'.cell? ⟨g, 3, none⟩ = some (.int .i64 c.g) ∧ w'.cell? ⟨g, 4, none⟩ = some (.int .i64 c.first) ∧ w'.cell? ⟨g, 5, none⟩ = some (.slice A c.pairs.length m) ∧ w'.cell? ⟨fb, 0, none⟩ = some (.int .i64 fk) ∧ w'.cell? ⟨fb, 2, none⟩ = some (.int .i64 fs)) (ds := []) #[false, false, false, false, false, false, false, false, false, false, false, false, false] (by kernel_rfl) rfl rfl ?st0 (fun hHeld => ?_)
  case st0 => exact hS0
  refine plan_ [.p 0 35, .p 1 36, .p 2 37, .t 3 38, .p 4 39, .t 5 40, .p 6 41, .t 7 42, .p 8 43, .t 9 44] ?_
  repeat (first | refine kP ?_ | refine kT hHeld ?_ | refine kG ?_)
  refine planE ?_
  refine jO 10 (some 45) (fun K hK => ?_)
  refine kC Tryz.func155 #[c.v A m, .int .i64 fk, .int .i64 fs] ?_
  with_reducible refine (KE _ (hC.out.below (by first | exact HB.out | exact below_drew HB.out | exact pw_below_drewN HB.out _))).mono ?_
  rintro e W3 ⟨rfl, hb⟩
  replace HB := am (b_tr (by first | exact HB.out | exact below_drew HB.out | exact pw_below_drewN HB.out _) hb)
  clear hb
  refine ⟨_, rfl, ?_⟩
  refine hK.out _ _ (LS.out _ HB.out) (fun hHeld => ?_)
  clear hK K
  refine kN ?_
  refine plan_ [.p 11 46, .p 12 47] ?_
  repeat (first | refine kP ?_ | refine kT hHeld ?_ | refine kG ?_)
  refine planE ?_
  refine done_ (by kernel_rfl) ?_
  go_wp2_with ((with_reducible refine gate_ (.store 117 (.tmp 4) (.tmp 48)) rfl ?_); refine store_part rfl 117 (.tmp 4) (.tmp 48) rfl (g + 1) 0 117 #[.int .i64 0, .int .i64 0, .int .i64 0, .int .i64 0, .int .i64 0, .slice none 0 0] [.int .i64 0, .int .i64 0, .int .i64 0, .int .i64 0, .int .i64 0, .slice none 0 0] rfl rfl (blk_below QG.out HB.out) (by simp) info_frame (by simp [Value.oneCell']) ?_; intro W2 hG2 hK2; have G2 := am hG2; have K2 := am hK2; clear hG2 hK2)
  have q1 : Below g w W3 := QB.out.trans (HB.out.mono (by have := blk_lt QC.out; omega))
  have q2 := below_kp q1 K2.out (by omega) (by have := blk_lt QC.out; have := HB.out.size; omega)
  refine bodyPost_ret (v := .tuple #[.agg #[.int .i64 0, .int .i64 0, .int .i64 0, .int .i64 0, .int .i64 0, .slice none 0 0], .int .i64 2]) (results_ct Tryz.results144 _ W2 _ _ _ _ _ rfl G2.out hu rfl info_frame) rfl (HN.out _ _ ⟨⟨2, by decide, rfl⟩, ?_⟩)
  rw [HG.out]
  exact q2
theorem read_no (c : Cf) (hc : c.OK) (l : List UInt8) (hl : l.length ≤ 900) (h : readL c l = none) (A : Option Addr) (m : Nat) (w : World) (hr : c.C w A m) :
  Calls Tryz.prog 144 #[c.v A m, .string (S l)] w (RdNo w) := by
 unfold readL at h
 cases ho : openL l with
 | none => exact read_shut c l hl ho A m w
 | some b =>
  rw [ho, Option.bind_some] at h
  by_cases h34 : b.length < 34
  ·exact read_short c l b hl ho h34 A m w
  ·exact read_long c hc l b hl ho h34 A m w hr _ (fun _ _ _ h => h) (fun h' => by rw [h] at h'; exact absurd h' (by simp))
theorem read_yes (c : Cf) (hc : c.OK) (l : List UInt8) (hl : l.length ≤ 900) (f : S117) (h : readL c l = some f) (A : Option Addr) (m : Nat) (w : World) (hr : c.C w A m) :
  Calls Tryz.prog 144 #[c.v A m, .string (S l)] w (RdYes f w) := by
 unfold readL at h
 cases ho : openL l with
 | none => rw [ho] at h; exact absurd h (by simp)
 | some b =>
  rw [ho, Option.bind_some] at h
  by_cases h34 : b.length < 34
  ·unfold readBits at h; rw [if_pos h34] at h; exact absurd h (by simp)
  ·exact read_long c hc l b hl ho h34 A m w hr _ (fun h' => by rw [h] at h'; exact absurd h' (by simp)) (fun h' _ _ hp => by rw [h] at h'; rw [Option.some.inj h']; exact hp)
end Go.Proofs.YtgcgglmmfgmaoaaGreat.PK
end
section
namespace Go.Proofs.YtgcgglmmfgmaoaaGreat.PK
open Go Go.RowKit Go.Proofs.YtgcgglmmfgmaoaaGreatW.PrintWords Go.Proofs.YtgcgglmmfgmaoaaGreatW.PrintLast Go.Proofs.YtgcgglmmfgmaoaaGreatW.PrintMore
attribute [local go_sem] max2_int min2_int max_two min_two
def rightL (c : Cf) (round slot : Int) (l : List UInt8) : Option S117 := match readL c l with
 | none => none
 | some f => if f.f1 = c.wire round ∧ f.f2 = slot then some f else none
def frV (f : S117) (v : Value) : Array Value := #[.int .i64 f.f0, .int .i64 f.f1, .int .i64 f.f2, .int .i64 f.f3.f0, .int .i64 f.f3.f1, v]
def zFr : Array Value := #[.int .i64 0, .int .i64 0, .int .i64 0, .int .i64 0, .int .i64 0, .slice none 0 0]
def RtNo (w : World) (e : Ending) (w' : World) : Prop := e = .returned (.tuple #[.agg zFr, .bool false]) ∧ Below w.heap.size w w'
def RtYes (f : S117) (w : World) (e : Ending) (w' : World) : Prop := (∃ v : Value, e = .returned (.tuple #[.agg (frV f v), .bool true]) ∧ Kd.R k55 55 w' w.heap.size (fun _ => True) v f.f4) ∧ Below w.heap.size w w'
theorem right_shut (c : Cf) (hc : c.OK) (round slot : Int) (hr0 : 0 ≤ round) (hr1 : round ≤ 1000000) (l : List UInt8) (hl : l.length ≤ 900) (h : readL c l = none) (A : Option Addr) (m : Nat) (w : World) (hr : c.C w A m) :
  Calls Tryz.prog 130 #[c.v A m, .int .i64 round, .int .i64 slot, .string (S l)] w (RtNo w) := by
 have KR := fun W hw => read_no c hc l hl h A m W hw
 have hu := Tryz.underlying117
 have hz : (w.alloc (.cells #[.int .i64 c.n, .int .i64 c.pi, .int .i64 c.e, .int .i64 c.g, .int .i64 c.first, .slice A c.pairs.length m] 24)).heap.size = w.heap.size + 1 := by simp
 have hG0 := blk_new (w.alloc (.cells #[.int .i64 c.n, .int .i64 c.pi, .int .i64 c.e, .int .i64 c.g, .int .i64 c.first, .slice A c.pairs.length m] 24)) (.cells #[.int .i64 0, .int .i64 0, .int .i64 0, .int .i64 0, .int .i64 0, .slice none 0 0] 117)
 have hC0 := blk_alloc (blk_new w (.cells #[.int .i64 c.n, .int .i64 c.pi, .int .i64 c.e, .int .i64 c.g, .int .i64 c.first, .slice A c.pairs.length m] 24)) (.cells #[.int .i64 0, .int .i64 0, .int .i64 0, .int .i64 0, .int .i64 0, .slice none 0 0] 117)
 have hB0 := (b_al w (.cells #[.int .i64 c.n, .int .i64 c.pi, .int .i64 c.e, .int .i64 c.g, .int .i64 c.first, .slice A c.pairs.length m] 24)).alloc (by simp) (.cells #[.int .i64 0, .int .i64 0, .int .i64 0, .int .i64 0, .int .i64 0, .slice none 0 0] 117)
 rw [hz] at hG0
 have LG := am hG0
 have LC := am hC0
 have LW := am (hr.below hB0)
 have hB0' := am hB0
 have KW := fun W h => wire_calls c hc round hr0 hr1 A m W h
 clear hz hG0 hC0 hB0 hr
 skip
 generalize S l = s at *
 go_enter Tryz.func130, Tryz.ntmps130
 go_wp2_with (first
  | ((with_reducible refine gate_ (.load 24 (.tmp 4)) rfl ?_); refine wpList_load_row rfl 24 (.tmp 4) rfl w.heap.size rfl _ _ _ _ LC.out Tryz.underlying24 rfl info_conf ?_)
  | (go_at_call 144; ((refine (KR _ LW.out).mono ?_); rintro e W ⟨⟨kc, hkc, rfl⟩, hb⟩; have LB := am (hB0'.out.trans (hb.mono (by simp; omega))); have hG := am (blk_below LG.out hb); have hCC := am (blk_below LC.out hb); have hgl := am (show w.heap.size + 1 < W.heap.size from Nat.lt_of_lt_of_le (by simp) hb.size); have hk1 : (kc != 0) = true := (by rw [bne_iff_ne]; exact hkc); have HKC := am hkc; have hBR := am hb; clear hkc; clear hb)))
 have qF := blk_new W (.cells #[.int .i64 0, .int .i64 0, .int .i64 0, .int .i64 0, .int .i64 0, .slice none 0 0] 117)
 have qG := blk_alloc hG.out (.cells #[.int .i64 0, .int .i64 0, .int .i64 0, .int .i64 0, .int .i64 0, .slice none 0 0] 117)
 have qC := blk_alloc hCC.out (.cells #[.int .i64 0, .int .i64 0, .int .i64 0, .int .i64 0, .int .i64 0, .slice none 0 0] 117)
 have qB := LB.out.alloc (by have := hgl.out; omega) (.cells #[.int .i64 0, .int .i64 0, .int .i64 0, .int .i64 0, .int .i64 0, .slice none 0 0] 117)
 have hfb := hgl.out
 have hCW := LW.out.below (show Below _ _ W from hBR.out)
 have hCW2 := hCW.below (b_al W (.cells #[.int .i64 0, .int .i64 0, .int .i64 0, .int .i64 0, .int .i64 0, .slice none 0 0] 117))
 clear LG LC LW LB hG hCC hgl hCW hB0' hBR
 generalize W.alloc (.cells #[.int .i64 0, .int .i64 0, .int .i64 0, .int .i64 0, .int .i64 0, .slice none 0 0] 117) = W0 at *
 generalize W.heap.size = fb at *
 generalize hg : w.heap.size = g at *
 have HG := am hg
 clear hg
 have QF := am qF
 have QG := am qG
 have QC := am qC
 have QB := am qB
 have hC := am hCW2
 have LS : Aside0 (∀ w', Below W0.heap.size W0 w' → (fun w' => w'.cell? ⟨fb, 1, none⟩ = some (.int .i64 0) ∧ w'.cell? ⟨fb, 2, none⟩ = some (.int .i64 0) ∧ w'.cell? ⟨g, 0, none⟩ = some (.int .i64 c.n) ∧ w'.cell? ⟨g, 1, none⟩ = some (.int .i64 c.pi) ∧ w'.cell? ⟨g, 2, none⟩ = some (.int .i64 c.e) ∧ w'.cell? ⟨g, 3, none⟩ = some (.int .i64 c.g) ∧ w'.cell? ⟨g, 4, none⟩ = some (.int .i64 c.first) ∧ w'.cell? ⟨g, 5, none⟩ = some (.slice A c.pairs.length m)) w') := ⟨fun w' hb => ⟨(blk_cell (blk_below QF.out hb) 1).trans rfl, (blk_cell (blk_below QF.out hb) 2).trans rfl, (blk_cell (blk_below QC.out hb) 0).trans rfl, (blk_cell (blk_below QC.out hb) 1).trans rfl, (blk_cell (blk_below QC.out hb) 2).trans rfl, (blk_cell (blk_below QC.out hb) 3).trans rfl, (blk_cell (blk_below QC.out hb) 4).trans rfl, (blk_cell (blk_below QC.out hb) 5).trans rfl⟩⟩
 have HB := am (Below.refl W0.heap.size W0)
 have hS0 := LS.out W0.drew (below_drew (Below.refl _ _))
 have hgz := blk_lt QC.out
 clear qF qG qC qB hCW2
 refine start_ (n := 16) (S := fun w' => w'.cell? ⟨fb, 1, none⟩ = some (.int .i64 0) ∧ w'.cell? ⟨fb, 2, none⟩ = some (.int .i64 0) ∧ w'.cell? ⟨g, 0, none⟩ = some (.int .i64 c.n) ∧ w'.cell? ⟨g, 1, none⟩ = some (.int .i64 c.pi) ∧ w'.cell? ⟨g, 2, none⟩ = some (.int .i64 c.e) ∧ w'.cell? ⟨g, 3, none⟩ = some (.int .i64 c.g) ∧ w'.cell? ⟨g, 4, none⟩ = some (.int .i64 c.first) ∧ w'.cell? ⟨g, 5, none⟩ = some (.slice A c.pairs.length m)) (ds := []) #[false, false, false, false, false, false, false, false, false, false, false, false, false, false, false, false] (by kernel_rfl) rfl rfl ?st0 (fun hHeld => ?_)
 case st0 => exact hS0
 refine plan_ [.p 0 18, .p 1 19, .p 2 20, .g 3 21, .g 4 22, .g 5 23, .g 6 24, .g 7 25, .g 8 26, .p 9 27, .p 10 28, .g 11 29, .g 12 30, .g 13 31, .g 14 32, .p 15 33] ?_
 repeat (first | refine kP ?_ | refine kT hHeld ?_ | refine kG ?_)
 refine planE ?_
 refine done_ (by kernel_rfl) ?_
 go_wp2_with ((with_reducible refine gate_ (.store 117 (.tmp 8) (.tmp 34)) rfl ?_); refine store_part rfl 117 (.tmp 8) (.tmp 34) rfl (g + 1) 0 117 #[.int .i64 0, .int .i64 0, .int .i64 0, .int .i64 0, .int .i64 0, .slice none 0 0] [.int .i64 0, .int .i64 0, .int .i64 0, .int .i64 0, .int .i64 0, .slice none 0 0] rfl rfl (blk_below QG.out (by first | exact HB.out | exact below_drew HB.out | exact pw_below_drewN HB.out _)) (by simp) info_frame (by simp [Value.oneCell']) ?_; intro V3 hG3 hK3; have G3 := am hG3; have K3 := am hK3; clear hG3 hK3)
 have q1 : Below g w W0.drew := QB.out.trans (Below.mono (by first | exact HB.out | exact below_drew HB.out | exact pw_below_drewN HB.out _) (Nat.le_of_lt hgz))
 have q2 := below_kp q1 K3.out (show g ≤ g + 1 by omega) (by have := q1.size; rw [HG.out] at this; exact this)
 refine bodyPost_ret (v := .tuple #[.agg zFr, .bool false]) (results_ct Tryz.results130 _ V3 _ _ _ _ _ rfl G3.out hu rfl info_frame) rfl ⟨rfl, ?_⟩
 rw [HG.out]
 exact q2
theorem right_round (c : Cf) (hc : c.OK) (round slot : Int) (hr0 : 0 ≤ round) (hr1 : round ≤ 1000000) (l : List UInt8) (hl : l.length ≤ 900) (fk fr fs pk pv : Int) (fe : List S55) (h : readL c l = some ⟨fk, fr, fs, ⟨pk, pv⟩, fe⟩) (h1 : fr ≠ c.wire round) (A : Option Addr) (m : Nat) (w : World) (hr : c.C w A m) :
  Calls Tryz.prog 130 #[c.v A m, .int .i64 round, .int .i64 slot, .string (S l)] w (RtNo w) := by
 have KR := fun W hw => read_yes c hc l hl ⟨fk, fr, fs, ⟨pk, pv⟩, fe⟩ h A m W hw
 have hu := Tryz.underlying117
 have hz : (w.alloc (.cells #[.int .i64 c.n, .int .i64 c.pi, .int .i64 c.e, .int .i64 c.g, .int .i64 c.first, .slice A c.pairs.length m] 24)).heap.size = w.heap.size + 1 := by simp
 have hG0 := blk_new (w.alloc (.cells #[.int .i64 c.n, .int .i64 c.pi, .int .i64 c.e, .int .i64 c.g, .int .i64 c.first, .slice A c.pairs.length m] 24)) (.cells #[.int .i64 0, .int .i64 0, .int .i64 0, .int .i64 0, .int .i64 0, .slice none 0 0] 117)
 have hC0 := blk_alloc (blk_new w (.cells #[.int .i64 c.n, .int .i64 c.pi, .int .i64 c.e, .int .i64 c.g, .int .i64 c.first, .slice A c.pairs.length m] 24)) (.cells #[.int .i64 0, .int .i64 0, .int .i64 0, .int .i64 0, .int .i64 0, .slice none 0 0] 117)
 have hB0 := (b_al w (.cells #[.int .i64 c.n, .int .i64 c.pi, .int .i64 c.e, .int .i64 c.g, .int .i64 c.first, .slice A c.pairs.length m] 24)).alloc (by simp) (.cells #[.int .i64 0, .int .i64 0, .int .i64 0, .int .i64 0, .int .i64 0, .slice none 0 0] 117)
 rw [hz] at hG0
 have LG := am hG0
 have LC := am hC0
 have LW := am (hr.below hB0)
 have hB0' := am hB0
 have KW := fun W h => wire_calls c hc round hr0 hr1 A m W h
 clear hz hG0 hC0 hB0 hr
 have H1 := am h1; clear h1 h
 generalize S l = s at *
 go_enter Tryz.func130, Tryz.ntmps130
 go_wp2_with (first
  | ((with_reducible refine gate_ (.load 24 (.tmp 4)) rfl ?_); refine wpList_load_row rfl 24 (.tmp 4) rfl w.heap.size rfl _ _ _ _ LC.out Tryz.underlying24 rfl info_conf ?_)
  | (go_at_call 144; ((refine (KR _ LW.out).mono ?_); rintro e W ⟨⟨ve, rfl, hve⟩, hb⟩; have LB := am (hB0'.out.trans (hb.mono (by simp; omega))); have hG := am (blk_below LG.out hb); have hCC := am (blk_below LC.out hb); have hgl := am (show w.heap.size + 1 < W.heap.size from Nat.lt_of_lt_of_le (by simp) hb.size); obtain ⟨Ae, ce, rfl⟩ := Kd.R_slice hve; have hVE := am (Kd.R_lower hve (show w.heap.size ≤ _ from by simp; omega)); have hBR := am hb; clear hve; clear hb)))
 have qF := blk_new W (.cells #[.int .i64 fk, .int .i64 fr, .int .i64 fs, .int .i64 pk, .int .i64 pv, .slice Ae fe.length ce] 117)
 have qG := blk_alloc hG.out (.cells #[.int .i64 fk, .int .i64 fr, .int .i64 fs, .int .i64 pk, .int .i64 pv, .slice Ae fe.length ce] 117)
 have qC := blk_alloc hCC.out (.cells #[.int .i64 fk, .int .i64 fr, .int .i64 fs, .int .i64 pk, .int .i64 pv, .slice Ae fe.length ce] 117)
 have qB := LB.out.alloc (by have := hgl.out; omega) (.cells #[.int .i64 fk, .int .i64 fr, .int .i64 fs, .int .i64 pk, .int .i64 pv, .slice Ae fe.length ce] 117)
 have qR := Kd.R_alloc hVE.out (.cells #[.int .i64 fk, .int .i64 fr, .int .i64 fs, .int .i64 pk, .int .i64 pv, .slice Ae fe.length ce] 117)
 clear hVE
 have hfb := hgl.out
 have hCW := LW.out.below (show Below _ _ W from hBR.out)
 have hCW2 := hCW.below (b_al W (.cells #[.int .i64 fk, .int .i64 fr, .int .i64 fs, .int .i64 pk, .int .i64 pv, .slice Ae fe.length ce] 117))
 clear LG LC LW LB hG hCC hgl hCW hB0' hBR
 generalize W.alloc (.cells #[.int .i64 fk, .int .i64 fr, .int .i64 fs, .int .i64 pk, .int .i64 pv, .slice Ae fe.length ce] 117) = W0 at *
 generalize W.heap.size = fb at *
 generalize hg : w.heap.size = g at *
 have HG := am hg
 clear hg
 have QF := am qF
 have QG := am qG
 have QC := am qC
 have QB := am qB
 have hC := am hCW2
 have LS : Aside0 (∀ w', Below W0.heap.size W0 w' → (fun w' => w'.cell? ⟨fb, 1, none⟩ = some (.int .i64 fr) ∧ w'.cell? ⟨fb, 2, none⟩ = some (.int .i64 fs) ∧ w'.cell? ⟨g, 0, none⟩ = some (.int .i64 c.n) ∧ w'.cell? ⟨g, 1, none⟩ = some (.int .i64 c.pi) ∧ w'.cell? ⟨g, 2, none⟩ = some (.int .i64 c.e) ∧ w'.cell? ⟨g, 3, none⟩ = some (.int .i64 c.g) ∧ w'.cell? ⟨g, 4, none⟩ = some (.int .i64 c.first) ∧ w'.cell? ⟨g, 5, none⟩ = some (.slice A c.pairs.length m)) w') := ⟨fun w' hb => ⟨(blk_cell (blk_below QF.out hb) 1).trans rfl, (blk_cell (blk_below QF.out hb) 2).trans rfl, (blk_cell (blk_below QC.out hb) 0).trans rfl, (blk_cell (blk_below QC.out hb) 1).trans rfl, (blk_cell (blk_below QC.out hb) 2).trans rfl, (blk_cell (blk_below QC.out hb) 3).trans rfl, (blk_cell (blk_below QC.out hb) 4).trans rfl, (blk_cell (blk_below QC.out hb) 5).trans rfl⟩⟩
 have HB := am (Below.refl W0.heap.size W0)
 have hS0 := LS.out W0.drew (below_drew (Below.refl _ _))
 have hgz := blk_lt QC.out
 clear qF qG qC qB hCW2
 have QR := am qR
 clear qR
 have b1 : (fr != c.wire round) = true := by rw [bne_iff_ne]; exact H1.out
 refine start_ (n := 16) (S := fun w' => w'.cell? ⟨fb, 1, none⟩ = some (.int .i64 fr) ∧ w'.cell? ⟨fb, 2, none⟩ = some (.int .i64 fs) ∧ w'.cell? ⟨g, 0, none⟩ = some (.int .i64 c.n) ∧ w'.cell? ⟨g, 1, none⟩ = some (.int .i64 c.pi) ∧ w'.cell? ⟨g, 2, none⟩ = some (.int .i64 c.e) ∧ w'.cell? ⟨g, 3, none⟩ = some (.int .i64 c.g) ∧ w'.cell? ⟨g, 4, none⟩ = some (.int .i64 c.first) ∧ w'.cell? ⟨g, 5, none⟩ = some (.slice A c.pairs.length m)) (ds := []) #[false, false, false, false, false, false, false, false, false, false, false, false, false, false, false, false] (by kernel_rfl) rfl rfl ?st0 (fun hHeld => ?_)
 case st0 => exact hS0
 refine plan_ [.p 0 18, .p 1 19, .p 2 20, .p 3 21, .t 4 22, .t 5 23, .p 6 24] ?_
 repeat (first | refine kP ?_ | refine kT hHeld ?_ | refine kG ?_)
 refine planE ?_
 refine jO 7 (some 25) (fun K hK => ?_)
 refine kC Tryz.func91 #[c.v A m, .int .i64 round] ?_
 with_reducible refine (KW _ (hC.out.below (by first | exact HB.out | exact below_drew HB.out | exact pw_below_drewN HB.out _))).mono ?_
 rintro e W3 ⟨rfl, hb⟩
 replace HB := am (b_tr (by first | exact HB.out | exact below_drew HB.out | exact pw_below_drewN HB.out _) hb)
 clear hb
 refine ⟨_, rfl, ?_⟩
 refine hK.out _ _ (LS.out _ HB.out) (fun hHeld => ?_)
 clear hK K
 refine kN ?_
 refine plan_ [.p 8 26, .p 9 27, .p 10 28, .g 11 29, .g 12 30, .g 13 31, .g 14 32, .p 15 33] ?_
 repeat (first | refine kP ?_ | refine kT hHeld ?_ | refine kG ?_)
 refine planE ?_
 refine done_ (by kernel_rfl) ?_
 go_wp2_with ((with_reducible refine gate_ (.store 117 (.tmp 8) (.tmp 34)) rfl ?_); refine store_part rfl 117 (.tmp 8) (.tmp 34) rfl (g + 1) 0 117 #[.int .i64 0, .int .i64 0, .int .i64 0, .int .i64 0, .int .i64 0, .slice none 0 0] [.int .i64 0, .int .i64 0, .int .i64 0, .int .i64 0, .int .i64 0, .slice none 0 0] rfl rfl (blk_below QG.out (by first | exact HB.out | exact below_drew HB.out | exact pw_below_drewN HB.out _)) (by simp) info_frame (by simp [Value.oneCell']) ?_; intro V3 hG3 hK3; have G3 := am hG3; have K3 := am hK3; clear hG3 hK3)
 have q1 : Below g w _ := QB.out.trans (Below.mono (by first | exact HB.out | exact below_drew HB.out | exact pw_below_drewN HB.out _) (Nat.le_of_lt hgz))
 have q2 := below_kp q1 K3.out (show g ≤ g + 1 by omega) (by have := q1.size; rw [HG.out] at this; exact this)
 refine bodyPost_ret (v := .tuple #[.agg zFr, .bool false]) (results_ct Tryz.results130 _ V3 _ _ _ _ _ rfl G3.out hu rfl info_frame) rfl ⟨rfl, ?_⟩
 rw [HG.out]
 exact q2
theorem right_slot (c : Cf) (hc : c.OK) (round slot : Int) (hr0 : 0 ≤ round) (hr1 : round ≤ 1000000) (l : List UInt8) (hl : l.length ≤ 900) (fk fr fs pk pv : Int) (fe : List S55) (h : readL c l = some ⟨fk, fr, fs, ⟨pk, pv⟩, fe⟩) (h1 : fr = c.wire round) (h2 : fs ≠ slot) (A : Option Addr) (m : Nat) (w : World) (hr : c.C w A m) :
  Calls Tryz.prog 130 #[c.v A m, .int .i64 round, .int .i64 slot, .string (S l)] w (RtNo w) := by
 have KR := fun W hw => read_yes c hc l hl ⟨fk, fr, fs, ⟨pk, pv⟩, fe⟩ h A m W hw
 have hu := Tryz.underlying117
 have hz : (w.alloc (.cells #[.int .i64 c.n, .int .i64 c.pi, .int .i64 c.e, .int .i64 c.g, .int .i64 c.first, .slice A c.pairs.length m] 24)).heap.size = w.heap.size + 1 := by simp
 have hG0 := blk_new (w.alloc (.cells #[.int .i64 c.n, .int .i64 c.pi, .int .i64 c.e, .int .i64 c.g, .int .i64 c.first, .slice A c.pairs.length m] 24)) (.cells #[.int .i64 0, .int .i64 0, .int .i64 0, .int .i64 0, .int .i64 0, .slice none 0 0] 117)
 have hC0 := blk_alloc (blk_new w (.cells #[.int .i64 c.n, .int .i64 c.pi, .int .i64 c.e, .int .i64 c.g, .int .i64 c.first, .slice A c.pairs.length m] 24)) (.cells #[.int .i64 0, .int .i64 0, .int .i64 0, .int .i64 0, .int .i64 0, .slice none 0 0] 117)
 have hB0 := (b_al w (.cells #[.int .i64 c.n, .int .i64 c.pi, .int .i64 c.e, .int .i64 c.g, .int .i64 c.first, .slice A c.pairs.length m] 24)).alloc (by simp) (.cells #[.int .i64 0, .int .i64 0, .int .i64 0, .int .i64 0, .int .i64 0, .slice none 0 0] 117)
 rw [hz] at hG0
 have LG := am hG0
 have LC := am hC0
 have LW := am (hr.below hB0)
 have hB0' := am hB0
 have KW := fun W h => wire_calls c hc round hr0 hr1 A m W h
 clear hz hG0 hC0 hB0 hr
 have H1 := am h1; have H2 := am h2; clear h1 h2 h
 generalize S l = s at *
 go_enter Tryz.func130, Tryz.ntmps130
 go_wp2_with (first
  | ((with_reducible refine gate_ (.load 24 (.tmp 4)) rfl ?_); refine wpList_load_row rfl 24 (.tmp 4) rfl w.heap.size rfl _ _ _ _ LC.out Tryz.underlying24 rfl info_conf ?_)
  | (go_at_call 144; ((refine (KR _ LW.out).mono ?_); rintro e W ⟨⟨ve, rfl, hve⟩, hb⟩; have LB := am (hB0'.out.trans (hb.mono (by simp; omega))); have hG := am (blk_below LG.out hb); have hCC := am (blk_below LC.out hb); have hgl := am (show w.heap.size + 1 < W.heap.size from Nat.lt_of_lt_of_le (by simp) hb.size); obtain ⟨Ae, ce, rfl⟩ := Kd.R_slice hve; have hVE := am (Kd.R_lower hve (show w.heap.size ≤ _ from by simp; omega)); have hBR := am hb; clear hve; clear hb)))
 have qF := blk_new W (.cells #[.int .i64 fk, .int .i64 fr, .int .i64 fs, .int .i64 pk, .int .i64 pv, .slice Ae fe.length ce] 117)
 have qG := blk_alloc hG.out (.cells #[.int .i64 fk, .int .i64 fr, .int .i64 fs, .int .i64 pk, .int .i64 pv, .slice Ae fe.length ce] 117)
 have qC := blk_alloc hCC.out (.cells #[.int .i64 fk, .int .i64 fr, .int .i64 fs, .int .i64 pk, .int .i64 pv, .slice Ae fe.length ce] 117)
 have qB := LB.out.alloc (by have := hgl.out; omega) (.cells #[.int .i64 fk, .int .i64 fr, .int .i64 fs, .int .i64 pk, .int .i64 pv, .slice Ae fe.length ce] 117)
 have qR := Kd.R_alloc hVE.out (.cells #[.int .i64 fk, .int .i64 fr, .int .i64 fs, .int .i64 pk, .int .i64 pv, .slice Ae fe.length ce] 117)
 clear hVE
 have hfb := hgl.out
 have hCW := LW.out.below (show Below _ _ W from hBR.out)
 have hCW2 := hCW.below (b_al W (.cells #[.int .i64 fk, .int .i64 fr, .int .i64 fs, .int .i64 pk, .int .i64 pv, .slice Ae fe.length ce] 117))
 clear LG LC LW LB hG hCC hgl hCW hB0' hBR
 generalize W.alloc (.cells #[.int .i64 fk, .int .i64 fr, .int .i64 fs, .int .i64 pk, .int .i64 pv, .slice Ae fe.length ce] 117) = W0 at *
 generalize W.heap.size = fb at *
 generalize hg : w.heap.size = g at *
 have HG := am hg
 clear hg
 have QF := am qF
 have QG := am qG
 have QC := am qC
 have QB := am qB
 have hC := am hCW2
 have LS : Aside0 (∀ w', Below W0.heap.size W0 w' → (fun w' => w'.cell? ⟨fb, 1, none⟩ = some (.int .i64 fr) ∧ w'.cell? ⟨fb, 2, none⟩ = some (.int .i64 fs) ∧ w'.cell? ⟨g, 0, none⟩ = some (.int .i64 c.n) ∧ w'.cell? ⟨g, 1, none⟩ = some (.int .i64 c.pi) ∧ w'.cell? ⟨g, 2, none⟩ = some (.int .i64 c.e) ∧ w'.cell? ⟨g, 3, none⟩ = some (.int .i64 c.g) ∧ w'.cell? ⟨g, 4, none⟩ = some (.int .i64 c.first) ∧ w'.cell? ⟨g, 5, none⟩ = some (.slice A c.pairs.length m)) w') := ⟨fun w' hb => ⟨(blk_cell (blk_below QF.out hb) 1).trans rfl, (blk_cell (blk_below QF.out hb) 2).trans rfl, (blk_cell (blk_below QC.out hb) 0).trans rfl, (blk_cell (blk_below QC.out hb) 1).trans rfl, (blk_cell (blk_below QC.out hb) 2).trans rfl, (blk_cell (blk_below QC.out hb) 3).trans rfl, (blk_cell (blk_below QC.out hb) 4).trans rfl, (blk_cell (blk_below QC.out hb) 5).trans rfl⟩⟩
 have HB := am (Below.refl W0.heap.size W0)
 have hS0 := LS.out W0.drew (below_drew (Below.refl _ _))
 have hgz := blk_lt QC.out
 clear qF qG qC qB hCW2
 have QR := am qR
 clear qR
 have b1 : (fr != c.wire round) = false := by rw [H1.out]; simp
 have b2 : (fs != slot) = true := by rw [bne_iff_ne]; exact H2.out
 refine start_ (n := 16) (S := fun w' => w'.cell? ⟨fb, 1, none⟩ = some (.int .i64 fr) ∧ w'.cell? ⟨fb, 2, none⟩ = some (.int .i64 fs) ∧ w'.cell? ⟨g, 0, none⟩ = some (.int .i64 c.n) ∧ w'.cell? ⟨g, 1, none⟩ = some (.int .i64 c.pi) ∧ w'.cell? ⟨g, 2, none⟩ = some (.int .i64 c.e) ∧ w'.cell? ⟨g, 3, none⟩ = some (.int .i64 c.g) ∧ w'.cell? ⟨g, 4, none⟩ = some (.int .i64 c.first) ∧ w'.cell? ⟨g, 5, none⟩ = some (.slice A c.pairs.length m)) (ds := []) #[false, false, false, false, false, false, false, false, false, false, false, false, false, false, false, false] (by kernel_rfl) rfl rfl ?st0 (fun hHeld => ?_)
 case st0 => exact hS0
 refine plan_ [.p 0 18, .p 1 19, .p 2 20, .p 3 21, .t 4 22, .t 5 23, .p 6 24] ?_
 repeat (first | refine kP ?_ | refine kT hHeld ?_ | refine kG ?_)
 refine planE ?_
 refine jO 7 (some 25) (fun K hK => ?_)
 refine kC Tryz.func91 #[c.v A m, .int .i64 round] ?_
 with_reducible refine (KW _ (hC.out.below (by first | exact HB.out | exact below_drew HB.out | exact pw_below_drewN HB.out _))).mono ?_
 rintro e W3 ⟨rfl, hb⟩
 replace HB := am (b_tr (by first | exact HB.out | exact below_drew HB.out | exact pw_below_drewN HB.out _) hb)
 clear hb
 refine ⟨_, rfl, ?_⟩
 refine hK.out _ _ (LS.out _ HB.out) (fun hHeld => ?_)
 clear hK K
 refine kN ?_
 refine plan_ [.p 8 26, .p 9 27, .p 10 28, .p 11 29, .t 12 30, .p 13 31, .p 14 32, .p 15 33] ?_
 repeat (first | refine kP ?_ | refine kT hHeld ?_ | refine kG ?_)
 refine planE ?_
 refine done_ (by kernel_rfl) ?_
 go_wp2_with ((with_reducible refine gate_ (.store 117 (.tmp 8) (.tmp 34)) rfl ?_); refine store_part rfl 117 (.tmp 8) (.tmp 34) rfl (g + 1) 0 117 #[.int .i64 0, .int .i64 0, .int .i64 0, .int .i64 0, .int .i64 0, .slice none 0 0] [.int .i64 0, .int .i64 0, .int .i64 0, .int .i64 0, .int .i64 0, .slice none 0 0] rfl rfl (blk_below QG.out (by first | exact HB.out | exact below_drew HB.out | exact pw_below_drewN HB.out _)) (by simp) info_frame (by simp [Value.oneCell']) ?_; intro V3 hG3 hK3; have G3 := am hG3; have K3 := am hK3; clear hG3 hK3)
 have q1 : Below g w _ := QB.out.trans (Below.mono (by first | exact HB.out | exact below_drew HB.out | exact pw_below_drewN HB.out _) (Nat.le_of_lt hgz))
 have q2 := below_kp q1 K3.out (show g ≤ g + 1 by omega) (by have := q1.size; rw [HG.out] at this; exact this)
 refine bodyPost_ret (v := .tuple #[.agg zFr, .bool false]) (results_ct Tryz.results130 _ V3 _ _ _ _ _ rfl G3.out hu rfl info_frame) rfl ⟨rfl, ?_⟩
 rw [HG.out]
 exact q2
theorem right_yes (c : Cf) (hc : c.OK) (round slot : Int) (hr0 : 0 ≤ round) (hr1 : round ≤ 1000000) (l : List UInt8) (hl : l.length ≤ 900) (fk fr fs pk pv : Int) (fe : List S55) (h : readL c l = some ⟨fk, fr, fs, ⟨pk, pv⟩, fe⟩) (h1 : fr = c.wire round) (h2 : fs = slot) (A : Option Addr) (m : Nat) (w : World) (hr : c.C w A m) :
  Calls Tryz.prog 130 #[c.v A m, .int .i64 round, .int .i64 slot, .string (S l)] w (RtYes ⟨fk, fr, fs, ⟨pk, pv⟩, fe⟩ w) := by
 have KR := fun W hw => read_yes c hc l hl ⟨fk, fr, fs, ⟨pk, pv⟩, fe⟩ h A m W hw
 have hu := Tryz.underlying117
 have hz : (w.alloc (.cells #[.int .i64 c.n, .int .i64 c.pi, .int .i64 c.e, .int .i64 c.g, .int .i64 c.first, .slice A c.pairs.length m] 24)).heap.size = w.heap.size + 1 := by simp
 have hG0 := blk_new (w.alloc (.cells #[.int .i64 c.n, .int .i64 c.pi, .int .i64 c.e, .int .i64 c.g, .int .i64 c.first, .slice A c.pairs.length m] 24)) (.cells #[.int .i64 0, .int .i64 0, .int .i64 0, .int .i64 0, .int .i64 0, .slice none 0 0] 117)
 have hC0 := blk_alloc (blk_new w (.cells #[.int .i64 c.n, .int .i64 c.pi, .int .i64 c.e, .int .i64 c.g, .int .i64 c.first, .slice A c.pairs.length m] 24)) (.cells #[.int .i64 0, .int .i64 0, .int .i64 0, .int .i64 0, .int .i64 0, .slice none 0 0] 117)
 have hB0 := (b_al w (.cells #[.int .i64 c.n, .int .i64 c.pi, .int .i64 c.e, .int .i64 c.g, .int .i64 c.first, .slice A c.pairs.length m] 24)).alloc (by simp) (.cells #[.int .i64 0, .int .i64 0, .int .i64 0, .int .i64 0, .int .i64 0, .slice none 0 0] 117)
 rw [hz] at hG0
 have LG := am hG0
 have LC := am hC0
 have LW := am (hr.below hB0)
 have hB0' := am hB0
 have KW := fun W h => wire_calls c hc round hr0 hr1 A m W h
 clear hz hG0 hC0 hB0 hr
 have H1 := am h1; have H2 := am h2; clear h1 h2 h
 generalize S l = s at *
 go_enter Tryz.func130, Tryz.ntmps130
 go_wp2_with (first
  | ((with_reducible refine gate_ (.load 24 (.tmp 4)) rfl ?_); refine wpList_load_row rfl 24 (.tmp 4) rfl w.heap.size rfl _ _ _ _ LC.out Tryz.underlying24 rfl info_conf ?_)
  | (go_at_call 144; ((refine (KR _ LW.out).mono ?_); rintro e W ⟨⟨ve, rfl, hve⟩, hb⟩; have LB := am (hB0'.out.trans (hb.mono (by simp; omega))); have hG := am (blk_below LG.out hb); have hCC := am (blk_below LC.out hb); have hgl := am (show w.heap.size + 1 < W.heap.size from Nat.lt_of_lt_of_le (by simp) hb.size); obtain ⟨Ae, ce, rfl⟩ := Kd.R_slice hve; have hVE := am (Kd.R_lower hve (show w.heap.size ≤ _ from by simp; omega)); have hBR := am hb; clear hve; clear hb)))
 have qF := blk_new W (.cells #[.int .i64 fk, .int .i64 fr, .int .i64 fs, .int .i64 pk, .int .i64 pv, .slice Ae fe.length ce] 117)
 have qG := blk_alloc hG.out (.cells #[.int .i64 fk, .int .i64 fr, .int .i64 fs, .int .i64 pk, .int .i64 pv, .slice Ae fe.length ce] 117)
 have qC := blk_alloc hCC.out (.cells #[.int .i64 fk, .int .i64 fr, .int .i64 fs, .int .i64 pk, .int .i64 pv, .slice Ae fe.length ce] 117)
 have qB := LB.out.alloc (by have := hgl.out; omega) (.cells #[.int .i64 fk, .int .i64 fr, .int .i64 fs, .int .i64 pk, .int .i64 pv, .slice Ae fe.length ce] 117)
 have qR := Kd.R_alloc hVE.out (.cells #[.int .i64 fk, .int .i64 fr, .int .i64 fs, .int .i64 pk, .int .i64 pv, .slice Ae fe.length ce] 117)
 clear hVE
 have hfb := hgl.out
 have hCW := LW.out.below (show Below _ _ W from hBR.out)
 have hCW2 := hCW.below (b_al W (.cells #[.int .i64 fk, .int .i64 fr, .int .i64 fs, .int .i64 pk, .int .i64 pv, .slice Ae fe.length ce] 117))
 clear LG LC LW LB hG hCC hgl hCW hB0' hBR
 generalize W.alloc (.cells #[.int .i64 fk, .int .i64 fr, .int .i64 fs, .int .i64 pk, .int .i64 pv, .slice Ae fe.length ce] 117) = W0 at *
 generalize W.heap.size = fb at *
 generalize hg : w.heap.size = g at *
 have HG := am hg
 clear hg
 have QF := am qF
 have QG := am qG
 have QC := am qC
 have QB := am qB
 have hC := am hCW2
 have LS : Aside0 (∀ w', Below W0.heap.size W0 w' → (fun w' => w'.cell? ⟨fb, 1, none⟩ = some (.int .i64 fr) ∧ w'.cell? ⟨fb, 2, none⟩ = some (.int .i64 fs) ∧ w'.cell? ⟨g, 0, none⟩ = some (.int .i64 c.n) ∧ w'.cell? ⟨g, 1, none⟩ = some (.int .i64 c.pi) ∧ w'.cell? ⟨g, 2, none⟩ = some (.int .i64 c.e) ∧ w'.cell? ⟨g, 3, none⟩ = some (.int .i64 c.g) ∧ w'.cell? ⟨g, 4, none⟩ = some (.int .i64 c.first) ∧ w'.cell? ⟨g, 5, none⟩ = some (.slice A c.pairs.length m)) w') := ⟨fun w' hb => ⟨(blk_cell (blk_below QF.out hb) 1).trans rfl, (blk_cell (blk_below QF.out hb) 2).trans rfl, (blk_cell (blk_below QC.out hb) 0).trans rfl, (blk_cell (blk_below QC.out hb) 1).trans rfl, (blk_cell (blk_below QC.out hb) 2).trans rfl, (blk_cell (blk_below QC.out hb) 3).trans rfl, (blk_cell (blk_below QC.out hb) 4).trans rfl, (blk_cell (blk_below QC.out hb) 5).trans rfl⟩⟩
 have HB := am (Below.refl W0.heap.size W0)
 have hS0 := LS.out W0.drew (below_drew (Below.refl _ _))
 have hgz := blk_lt QC.out
 clear qF qG qC qB hCW2
 have QR := am qR
 clear qR
 have b1 : (fr != c.wire round) = false := by rw [H1.out]; simp
 have b2 : (fs != slot) = false := by rw [H2.out]; simp
 refine start_ (n := 16) (S := fun w' => w'.cell? ⟨fb, 1, none⟩ = some (.int .i64 fr) ∧ w'.cell? ⟨fb, 2, none⟩ = some (.int .i64 fs) ∧ w'.cell? ⟨g, 0, none⟩ = some (.int .i64 c.n) ∧ w'.cell? ⟨g, 1, none⟩ = some (.int .i64 c.pi) ∧ w'.cell? ⟨g, 2, none⟩ = some (.int .i64 c.e) ∧ w'.cell? ⟨g, 3, none⟩ = some (.int .i64 c.g) ∧ w'.cell? ⟨g, 4, none⟩ = some (.int .i64 c.first) ∧ w'.cell? ⟨g, 5, none⟩ = some (.slice A c.pairs.length m)) (ds := []) #[false, false, false, false, false, false, false, false, false, false, false, false, false, false, false, false] (by kernel_rfl) rfl rfl ?st0 (fun hHeld => ?_)
 case st0 => exact hS0
 refine plan_ [.p 0 18, .p 1 19, .p 2 20, .p 3 21, .t 4 22, .t 5 23, .p 6 24] ?_
 repeat (first | refine kP ?_ | refine kT hHeld ?_ | refine kG ?_)
 refine planE ?_
 refine jO 7 (some 25) (fun K hK => ?_)
 refine kC Tryz.func91 #[c.v A m, .int .i64 round] ?_
 with_reducible refine (KW _ (hC.out.below (by first | exact HB.out | exact below_drew HB.out | exact pw_below_drewN HB.out _))).mono ?_
 rintro e W3 ⟨rfl, hb⟩
 replace HB := am (b_tr (by first | exact HB.out | exact below_drew HB.out | exact pw_below_drewN HB.out _) hb)
 clear hb
 refine ⟨_, rfl, ?_⟩
 refine hK.out _ _ (LS.out _ HB.out) (fun hHeld => ?_)
 clear hK K
 refine kN ?_
 refine plan_ [.p 8 26, .p 9 27, .p 10 28, .p 11 29, .t 12 30, .p 13 31, .p 14 32, .p 15 33] ?_
 repeat (first | refine kP ?_ | refine kT hHeld ?_ | refine kG ?_)
 refine planE ?_
 refine done_ (by kernel_rfl) ?_
 go_wp2_with (first
  | ((with_reducible refine gate_ (.load 117 (.tmp 10)) rfl ?_); refine wpList_load_row rfl 117 (.tmp 10) rfl fb rfl _ _ _ _ (blk_below QF.out HB.out) hu rfl info_frame ?_)
  | ((with_reducible refine gate_ (.store 117 (.tmp 8) (.tmp 35)) rfl ?_); refine store_part rfl 117 (.tmp 8) (.tmp 35) rfl (g + 1) 0 117 #[.int .i64 fk, .int .i64 fr, .int .i64 fs, .int .i64 pk, .int .i64 pv, .slice Ae fe.length ce] [.int .i64 0, .int .i64 0, .int .i64 0, .int .i64 0, .int .i64 0, .slice none 0 0] rfl rfl (blk_below QG.out (by first | exact HB.out | exact below_drew HB.out | exact pw_below_drewN HB.out _)) (by simp) info_frame (by simp [Value.oneCell']) ?_; intro V3 hG3 hK3; have G3 := am hG3; have K3 := am hK3; clear hG3 hK3))
 have q1 : Below g w W3 := QB.out.trans (HB.out.mono (Nat.le_of_lt hgz))
 have q2 := below_kp q1 K3.out (show g ≤ g + 1 by omega) (by have := HB.out.size; omega)
 have q3 := R_kp (Kd.R_below QR.out HB.out) (blk_below QG.out HB.out) (by decide) K3.out
 refine bodyPost_ret (v := .tuple #[.agg (frV ⟨fk, fr, fs, ⟨pk, pv⟩, fe⟩ (.slice Ae fe.length ce)), .bool true]) (results_ct Tryz.results130 _ V3 _ _ _ _ _ rfl G3.out hu rfl info_frame) rfl ⟨⟨_, rfl, ?_⟩, ?_⟩
 ·rw [HG.out]; exact q3
 ·rw [HG.out]; exact q2
theorem right_no (c : Cf) (hc : c.OK) (round slot : Int) (hr0 : 0 ≤ round) (hr1 : round ≤ 1000000) (l : List UInt8) (hl : l.length ≤ 900) (h : rightL c round slot l = none) (A : Option Addr) (m : Nat) (w : World) (hr : c.C w A m) :
  Calls Tryz.prog 130 #[c.v A m, .int .i64 round, .int .i64 slot, .string (S l)] w (RtNo w) := by
 unfold rightL at h
 cases hq : readL c l with
 | none => exact right_shut c hc round slot hr0 hr1 l hl hq A m w hr
 | some f =>
  rw [hq] at h
  obtain ⟨fk, fr, fs, ⟨pk, pv⟩, fe⟩ := f
  simp only at h
  by_cases h1 : fr = c.wire round
  ·by_cases h2 : fs = slot
   ·rw [if_pos ⟨h1, h2⟩] at h; exact absurd h (by simp)
   ·exact right_slot c hc round slot hr0 hr1 l hl fk fr fs pk pv fe hq h1 h2 A m w hr
  ·exact right_round c hc round slot hr0 hr1 l hl fk fr fs pk pv fe hq h1 A m w hr
theorem right_some (c : Cf) (hc : c.OK) (round slot : Int) (hr0 : 0 ≤ round) (hr1 : round ≤ 1000000) (l : List UInt8) (hl : l.length ≤ 900) (f : S117) (h : rightL c round slot l = some f) (A : Option Addr) (m : Nat) (w : World) (hr : c.C w A m) :
  Calls Tryz.prog 130 #[c.v A m, .int .i64 round, .int .i64 slot, .string (S l)] w (RtYes f w) := by
 unfold rightL at h
 cases hq : readL c l with
 | none => rw [hq] at h; exact absurd h (by simp)
 | some f' =>
  rw [hq] at h
  obtain ⟨fk, fr, fs, ⟨pk, pv⟩, fe⟩ := f'
  simp only at h
  by_cases h12 : fr = c.wire round ∧ fs = slot
  ·rw [if_pos h12] at h
   obtain rfl := Option.some.inj h
   exact right_yes c hc round slot hr0 hr1 l hl fk fr fs pk pv fe hq h12.1 h12.2 A m w hr
  ·rw [if_neg h12] at h; exact absurd h (by simp)
end Go.Proofs.YtgcgglmmfgmaoaaGreat.PK
end
