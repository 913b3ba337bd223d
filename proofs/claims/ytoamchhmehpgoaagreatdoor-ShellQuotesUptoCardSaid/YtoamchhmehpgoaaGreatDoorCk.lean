/- Which configurations may be, as the program's check tells. -/
import Derived.Test.YtoamchhmehpgoaaGreatDoorPSJx1
import Derived.Test.YtoamchhmehpgoaaGreatDoorShelf
import Derived.Outline
import Derived.Deep.QuietTactic
import Derived.BigQuiet
import Derived.Deep.MidRow
namespace Go.Proofs.YtoamchhmehpgoaaGreatDoor.PSJ
open Go Go.RowKit Go.Proofs.YtoamchhmehpgoaaGreatDoorW.PrintWords Go.Proofs.YtoamchhmehpgoaaGreatDoorW.PrintLast Go.Proofs.YtoamchhmehpgoaaGreatDoorW.PrintMore
attribute [local go_sem] max2_int min2_int max_two min_two max_three min_three max_four min_four
set_option linter.unusedVariables false
set_option linter.unusedSimpArgs false
theorem w64_q (n : Int) (h0 : -9223372036854775808 ≤ n) (h1 : n < 9223372036854775808) : wrap64 n = n := by
  unfold wrap64
  omega
theorem tmod_emod_q (a n : Int) (hn : 0 < n) : (if Int.tmod a n < 0 then Int.tmod a n + n else Int.tmod a n) = a % n := by
  have h1 := Int.emod_nonneg a (show n ≠ 0 by omega)
  have h2 := Int.emod_lt_of_pos a hn
  have := @Int.tmod_eq_emod a n
  rw [this]
  by_cases h : 0 ≤ a ∨ n ∣ a
  · rw [if_pos h]
    split <;> omega
  · rw [if_neg h]
    have hd : ¬ a % n = 0 := fun e => h (.inr (Int.dvd_of_emod_eq_zero e))
    have hna : (n.natAbs : Int) = n := by omega
    split <;> omega
theorem tmod_range_q (a n : Int) (hn : 0 < n) : -n < Int.tmod a n ∧ Int.tmod a n < n := by
  have h1 := Int.emod_nonneg a (show n ≠ 0 by omega)
  have h2 := Int.emod_lt_of_pos a hn
  have := tmod_emod_q a n hn
  have h3 := @Int.tmod_eq_emod a n
  by_cases h : 0 ≤ a ∨ n ∣ a
  · rw [if_pos h] at h3; omega
  · rw [if_neg h] at h3
    have hd : ¬ a % n = 0 := fun e => h (.inr (Int.dvd_of_emod_eq_zero e))
    have hna : (n.natAbs : Int) = n := by omega
    omega
/-- A printed 'within': the remainder from nought on. -/
theorem within_eq_q (a n : Int) (hn : 0 < n) (hb : n ≤ 4611686018427387904) :
    (if n = 0 then (none) else (if (Int.tmod a n) < 0 then (some (wrap64 ((Int.tmod a n) + n))) else (some (Int.tmod a n)))) = some (a % n) := by
  have h1 := tmod_range_q a n hn
  have h2 := tmod_emod_q a n hn
  rw [if_neg (by omega), w64_q _ (by omega) (by omega)]
  rw [← h2]
  split <;> rfl
theorem tmod_tmod_add (a n : Int) (hn : 0 < n) : Int.tmod (Int.tmod a n + n) n = a % n := by
  have h := tmod_range_q a n hn
  have e1 : Int.tmod (Int.tmod a n + n) n = (Int.tmod a n + n) % n := Int.tmod_eq_emod_of_nonneg (by omega)
  rw [e1, Int.add_emod_right]
  have h2 := tmod_emod_q a n hn
  have h3 := Int.emod_nonneg a (show n ≠ 0 by omega)
  have h4 := Int.emod_lt_of_pos a hn
  by_cases hc : Int.tmod a n < 0
  · rw [if_pos hc] at h2
    rw [← h2, ← Int.add_emod_right, Int.emod_eq_of_lt (by omega) (by omega)]
  · rw [if_neg hc] at h2
    rw [h2, Int.emod_eq_of_lt h3 h4]
theorem b_al (w : World) (o : Obj) : Below w.heap.size w (w.alloc o) := (Below.refl _ _).alloc (Nat.le_refl _) o
theorem b_tr {w W W2 : World} (h1 : Below w.heap.size w W) (h2 : Below W.heap.size W W2) : Below w.heap.size w W2 := h1.trans (h2.mono h1.size)
theorem b_ac {w W : World} {o : Obj} (h : Below (w.alloc o).heap.size (w.alloc o) W) : Below w.heap.size w W := b_tr (b_al w o) h
theorem b_base {w0 w W : World} (h1 : Below w0.heap.size w0 w) (h2 : Below w.heap.size w W) : Below w0.heap.size w0 W := b_tr h1 h2
theorem ret_i (a b : Int) (h : a = b) : Ending.returned (.int .i64 a) = Ending.returned (.int .i64 b) := by rw [h]
theorem ret_b (a b : Bool) (h : a = b) : Ending.returned (.bool a) = Ending.returned (.bool b) := by rw [h]
theorem info_int_ : (Tryz.prog.info? 3).map (fun i => (i.zero, i.size, i.bytes)) = some (some (.int .i64 0), 1, 8) := by kernel_rfl
theorem cell_new (W : World) (cs : Array Value) (t : TypeId) (i : Nat) (u : Value) (h : cs[i]? = some u) : (W.alloc (.cells cs t)).cell? ⟨W.heap.size, i, none⟩ = some u := (blk_cell (blk_new W (.cells cs t)) i).trans h
/-- A row that a call has just laid. -/
theorem C_laid {α : Type} {d : Kd α} (W : World) (e : TypeId) (xs : List α) (inner : List Value) (hr : Reps (d.K (W.alloc (.cells inner.toArray e))) d.sz xs inner) (hm : xs.length ≤ 9223372036854775807) :
    d.C (W.alloc (.cells inner.toArray e)) (some ⟨W.heap.size, 0, none⟩) xs.length xs := by
  refine ⟨rfl, hm, fun _ => ⟨_, rfl, fun j p hj => ?_⟩⟩
  have hk := hr.2 j p hj
  have hj' := (List.getElem?_eq_some_iff.1 hj).1
  refine ⟨_, d.K_len hk, hk, fun i u hu => ?_⟩
  have hi : i < d.sz := by
    have := (List.getElem?_eq_some_iff.1 hu).1
    rw [d.K_len hk] at this
    exact this
  rw [add_plain]
  refine cell_new W _ e _ u ?_
  rw [List.getElem?_toArray]
  rw [List.getElem?_take_of_lt hi, List.getElem?_drop] at hu
  exact hu
theorem C_int1 (W : World) (e : TypeId) (x : Int) : Kd.C (Kd.int .i64) (W.alloc (.cells #[.int .i64 x] e)) (some ⟨W.heap.size, 0, none⟩) [x].length [x] :=
  C_laid (d := Kd.int .i64) W e [x] [.int .i64 x] ((Reps.none _ _).snoc (p := x) (c := [.int .i64 x]) rfl rfl) (by simp)
/-- What is left as it was: all blocks of the first world, but those of F. -/
structure Kp (F : Nat → Prop) (w w' : World) : Prop where
  os : w'.os = w.os
  tape : w'.tape = w.tape
  output : w'.output = w.output
  size : w.heap.size ≤ w'.heap.size
  block : ∀ k, k < w.heap.size → ¬ F k → w'.heap[k]? = w.heap[k]?
theorem Kp.refl (F : Nat → Prop) (w : World) : Kp F w w := ⟨rfl, rfl, rfl, Nat.le_refl _, fun _ _ _ => rfl⟩
theorem Kp.trans {F : Nat → Prop} {a b c : World} (h : Kp F a b) (k : Kp F b c) : Kp F a c :=
  ⟨k.os.trans h.os, k.tape.trans h.tape, k.output.trans h.output, Nat.le_trans h.size k.size, fun i hi hn => (k.block i (Nat.lt_of_lt_of_le hi h.size) hn).trans (h.block i hi hn)⟩
theorem Kp.of {F : Nat → Prop} {a b : World} (h : Below a.heap.size a b) : Kp F a b := ⟨h.os, h.tape, h.output, h.size, fun i hi _ => h.block i hi⟩
theorem Kp.then_ {F : Nat → Prop} {a b c : World} (h : Kp F a b) (k : Below b.heap.size b c) : Kp F a c := h.trans (Kp.of k)
theorem Kp.mono {F G : Nat → Prop} {a b : World} (h : Kp F a b) (hFG : ∀ i, i < a.heap.size → F i → G i) : Kp G a b := ⟨h.os, h.tape, h.output, h.size, fun i hi hn => h.block i hi (fun hf => hn (hFG i hi hf))⟩
theorem Kp.set_ {F : Nat → Prop} {a b : World} (h : Kp F a b) {p : Addr} (hp : F p.block ∨ a.heap.size ≤ p.block) (u : Value) : Kp F a (b.setCell p u) := by
  have k := (Below.refl 0 b).setCell (p := p) (Nat.zero_le _) u
  refine ⟨k.os.trans h.os, k.tape.trans h.tape, k.output.trans h.output, Nat.le_trans h.size k.size, fun i hi hn => ?_⟩
  rw [Below.heap_setCell b p u i (fun e => by
    subst e
    rcases hp with hp | hp
    · exact hn hp
    · exact absurd hi (Nat.not_lt.2 hp))]
  exact h.block i hi hn
theorem Kp.grown {F : Nat → Prop} {a b c : World} {row : Option Nat} (h : Kp F a b) (hg : b.grownBy c row) (hr : ∀ k, row = some k → F k ∨ a.heap.size ≤ k) : Kp F a c := by
  refine ⟨hg.os.trans h.os, hg.tape.trans h.tape, hg.output.trans h.output, Nat.le_trans h.size hg.size, fun i hi hn => ?_⟩
  rw [hg.block i (Nat.lt_of_lt_of_le hi h.size) (fun e => by
    rcases hr i e.symm with hp | hp
    · exact hn hp
    · exact absurd hi (Nat.not_lt.2 hp))]
  exact h.block i hi hn
theorem Kp.below {F : Nat → Prop} {a b : World} (h : Kp F a b) {B : Nat} (hB : B ≤ a.heap.size) (hF : ∀ i, i < B → ¬ F i) : Below B a b := ⟨h.os, h.tape, h.output, h.size, fun i hi => h.block i (Nat.lt_of_lt_of_le hi hB) (hF i hi)⟩
theorem Kp.blk {F : Nat → Prop} {a b : World} (h : Kp F a b) {g : Nat} {o : Obj} (hg : a.heap[g]? = some o) (hn : ¬ F g) : b.heap[g]? = some o := (h.block g (blk_lt hg) hn).trans hg
theorem Kp.cell {F : Nat → Prop} {a b : World} (h : Kp F a b) {p : Addr} {v : Value} (hc : a.cell? p = some v) (hn : ¬ F p.block) : b.cell? p = some v := (World.cell?_of_block (w := a) (h.block p.block (World.block_lt_of_cell? _ _ hc) hn)).trans hc
theorem R_kp {α : Type} {d : Kd α} {e : Nat} {w w1 : World} {base : Nat} {ok : Nat → Prop} {v : Value} {xs : List α} (h : d.R e w base ok v xs) {g t : Nat} {cells : Array Value} (hb : w.heap[g]? = some (.cells cells t (0, 0))) (ht : ∀ q, q ∈ e :: d.E → q ≠ t) (hk : Kp (fun k => k = g) w w1) : d.R e w1 base ok v xs :=
  Kd.R_mono (Kd.R_step (Kd.R_types h hb ht) (fun k ho hlt => hk.block k hlt ho.2)) (fun _ h => h.1)
theorem below_kp {w0 w w1 : World} {B g : Nat} (h : Below B w0 w) (hk : Kp (fun k => k = g) w w1) (hg : B ≤ g) (hB : B ≤ w.heap.size) : Below B w0 w1 := h.trans (hk.below hB (fun i hi e => by rw [e] at hi; omega))

structure Cf where
  n : Int
  pi : Int
  e : Int
  g : Int
  first : Int
  pairs : List Int
/-- One that may be. -/
structure Cf.OK (c : Cf) : Prop where
  n6 : 6 ≤ c.n
  n12 : c.n ≤ 12
  e0 : 0 ≤ c.e
  e1 : c.e ≤ 100
  g0 : 0 ≤ c.g
  g1 : c.g ≤ 100
  f0 : 0 ≤ c.first
  f1 : c.first ≤ 65535
  p0 : 4 * (c.e + c.g + 1) ≤ c.pi
  p1 : c.pi ≤ 10000
  l3 : c.pairs.length ≤ 3
  pr : ∀ x ∈ c.pairs, -1 ≤ x ∧ x < c.n
abbrev Cf.v (c : Cf) (A : Option Addr) (m : Nat) : Value := .agg #[.int .i64 c.n, .int .i64 c.pi, .int .i64 c.e, .int .i64 c.g, .int .i64 c.first, .slice A c.pairs.length m]
/-- Its pairs as they lie in memory. -/
def Cf.C (c : Cf) (w : World) (A : Option Addr) (m : Nat) : Prop := Kd.C (Kd.int .i64) w A c.pairs.length c.pairs ∧ c.pairs.length ≤ m
theorem Cf.C.below {c : Cf} {w W : World} {A : Option Addr} {m : Nat} (h : c.C w A m) (hb : Below w.heap.size w W) : c.C W A m := ⟨Kd.C_below h.1 hb, h.2⟩
/-- Where the first one stands of which p tells. -/
def idxP {α : Type} (p : α → Bool) : List α → Int → Int
  | [], _ => -1
  | x :: l, i => if p x = true then i else idxP p l (i + 1)
theorem idxP_any {α : Type} (p : α → Bool) : ∀ (l : List α) (i : Int), 0 ≤ i → decide (0 ≤ idxP p l i) = l.any p
  | [], i, _ => rfl
  | x :: l, i, h => by
    rw [idxP, List.any_cons]
    by_cases hx : p x = true
    · rw [if_pos hx, hx]; simp [h]
    · rw [if_neg hx, idxP_any p l (i + 1) (by omega)]; simp [Bool.eq_false_iff.2 hx]
theorem index_own (FN : Nat) (caps : Array Value) (p : Int → Bool) (A0 : Option Addr) (c0 : Nat) (l0 : List Int) (h1 : l0.length ≤ 1000000) (w : World) (hr0 : Kd.C (Kd.int .i64) w A0 l0.length l0)
    (hc : ∀ x W, Below w.heap.size w W → Calls Tryz.prog FN (#[.int .i64 x] ++ caps) W fun e w' => e = .returned (.bool (p x)) ∧ Below W.heap.size W w') (gcap : Nat) (hcap : caps = #[.pointer (some ⟨gcap, 0, none⟩)]) (hfn : FN = 101) :
    Calls Tryz.prog 136 #[.slice A0 l0.length c0, .func (.func FN) #[] caps] w fun e w' => e = .returned (.int .i64 (idxP p l0 0)) ∧ Below w.heap.size w w' := by
  subst hcap hfn
  have HR := Aside0.mk hr0
  have HC := Aside0.mk hc
  clear hr0 hc
  generalize hr : idxP p l0 0 = r
  go_enter Tryz.func136, Tryz.ntmps136
  go_wp2
  go_loopw [8] (fun i w' => ∃ k : Nat, i = .int .i64 k ∧ k ≤ l0.length ∧ Aside0 (idxP p (l0.drop k) k = r) ∧ Aside0 (Below w.heap.size w w')) (fun i _ => l0.length - (intOf i).toNat)
  case atStart => exact ⟨0, rfl, by omega, ⟨hr⟩, ⟨Below.refl _ _⟩⟩
  case round =>
    obtain ⟨k, rfl, hk, hm0, hB⟩ := hrel
    have hm := hm0.out
    clear hm0
    by_cases hlt : k < l0.length
    · have hp : (0 : Int) ≤ (k : Int) := Int.natCast_nonneg k
      have hq : (k : Int) < (l0.length : Int) := Int.ofNat_lt.2 hlt
      obtain ⟨ad, e, hx0⟩ := Kd.at_int HR.out (k : Int) hp hq
      subst e
      rw [Int.toNat_natCast] at hx0
      replace hx0 := (hB.out.cell (World.block_lt_of_cell? w _ hx0)).trans hx0
      rw [List.drop_eq_getElem_cons hlt, idxP] at hm
      have hrd : rd l0 (k : Int) = l0[k] := by
        unfold rd
        simp [List.getD_eq_getElem?_getD, List.getElem?_eq_getElem hlt]
      rw [hrd] at hx0
      have hcx := HC.out l0[k] _ hB.out
      generalize l0[k] = x at *
      by_cases hpx : p x = true
      · rw [if_pos hpx] at hm
        rw [hpx] at hcx
        have HM := Aside0.mk hm
        clear hm hpx hrd
        go_wp2_with (go_at_call 101; refine hcx.mono ?_; rintro e W ⟨rfl, hB2⟩; have HB2 := Aside0.mk hB2; clear hB2)
        go_ret
        exact ⟨ret_i _ _ HM.out, hB.out.trans (HB2.out.mono hB.out.size)⟩
      · rw [if_neg hpx] at hm
        rw [Bool.eq_false_iff.2 hpx] at hcx
        have HM := Aside0.mk hm
        clear hm hpx hrd
        go_wp2_with (go_at_call 101; refine hcx.mono ?_; rintro e W ⟨rfl, hB2⟩; have HB2 := Aside0.mk hB2; clear hB2)
        go_roundw
        case rel => exact ⟨k + 1, by simp, by omega, HM, ⟨hB.out.trans (HB2.out.mono hB.out.size)⟩⟩
        case measure => simp [intOf]; omega
    · obtain rfl : k = l0.length := by omega
      rw [List.drop_length] at hm
      have HM := Aside0.mk hm
      clear hm
      go_wp2
      go_ret
      exact ⟨ret_i _ _ HM.out, hB.out⟩
theorem has_own (caps : Array Value) (p : Int → Bool) (A0 : Option Addr) (c0 : Nat) (l0 : List Int) (h1 : l0.length ≤ 1000000) (w : World) (hr0 : Kd.C (Kd.int .i64) w A0 l0.length l0)
    (hc : ∀ x W, Below w.heap.size w W → Calls Tryz.prog 101 (#[.int .i64 x] ++ caps) W fun e w' => e = .returned (.bool (p x)) ∧ Below W.heap.size W w') (gcap : Nat) (hcap : caps = #[.pointer (some ⟨gcap, 0, none⟩)]) :
    Calls Tryz.prog 100 #[.slice A0 l0.length c0, .func (.func 101) #[] caps] w fun e w' => e = .returned (.bool (l0.any p)) ∧ Below w.heap.size w w' := by
  have HI := index_own 101 caps p A0 c0 l0 h1 w hr0 hc gcap hcap rfl
  subst hcap
  have HP := Aside0.mk (idxP_any p l0 0 (Int.le_refl _))
  clear hr0 hc
  generalize idxP p l0 0 = i at *
  go_enter Tryz.func100, Tryz.ntmps100
  go_wp2_with (go_at_call 136; refine HI.mono ?_; rintro e W ⟨rfl, hB⟩; have HB := Aside0.mk hB; clear hB)
  go_ret
  exact ⟨ret_b _ _ HP.out, HB.out⟩
def inB (a l m : Int) : Bool := decide (l ≤ a) && decide (a ≤ m)
theorem conf_in (a l m : Int) (w : World) :
    Calls Tryz.prog 99 #[.int .i64 a, .int .i64 l, .int .i64 m] w fun e w' => e = .returned (.bool (inB a l m)) ∧ w' = w := by
  unfold inB
  by_cases h : l ≤ a
  · rw [decide_eq_true h, Bool.true_and]
    go_enter Tryz.func99, Tryz.ntmps99
    go_wp2
    go_ret
    exact ⟨rfl, rfl⟩
  · have hb : decide (l ≤ a) = false := decide_eq_false h
    rw [hb, Bool.false_and]
    clear h
    go_enter Tryz.func99, Tryz.ntmps99
    go_wp2
    go_ret
    exact ⟨rfl, rfl⟩
theorem conf_own (x n : Int) (hn0 : -1000000 ≤ n) (hn1 : n ≤ 1000000) (g : Nat) (w : World) (hN : w.cell? ⟨g, 0, none⟩ = some (.int .i64 n)) :
    Calls Tryz.prog 101 #[.int .i64 x, .pointer (some ⟨g, 0, none⟩)] w fun e w' => e = .returned (.bool (!inB x (-1) (n - 1))) ∧ Below w.heap.size w w' := by
  have KI := fun W => conf_in x (-1) (n - 1) W
  generalize inB x (-1) (n - 1) = b at KI ⊢
  go_enter Tryz.func101, Tryz.ntmps101
  go_wp2_with (go_at_call 99; with_reducible refine (KI _).mono ?_; rintro e W ⟨rfl, rfl⟩)
  go_ret
  exact ⟨rfl, Below.refl _ _⟩
/-- What the check answers. -/
def Cf.err (c : Cf) : Int :=
  if (inB c.n 6 12 && inB c.e 0 100 && inB c.g 0 100 && inB c.first 0 65535) = false then 1
  else if inB c.pi (4 * (c.e + c.g + 1)) 10000 = false then 1
  else if 3 < c.pairs.length then 2
  else if (c.pairs.any fun x => !inB x (-1) (c.n - 1)) = true then 1
  else 0
set_option maxHeartbeats 4000000 in
set_option maxRecDepth 100000 in
theorem conf_Check (c : Cf) (A : Option Addr) (m : Nat) (hl : c.pairs.length ≤ 1000000) (w : World) (hr : c.C w A m) :
    Calls Tryz.prog 72 #[c.v A m] w fun e w' => e = .returned (.int .i64 c.err) ∧ Below w.heap.size w w' := by
  obtain ⟨cn, cpi, ce, cg, cf, cp⟩ := c
  have K0 := fun W => conf_in cn 6 12 W
  have K1 := fun W => conf_in ce 0 100 W
  have K2 := fun W => conf_in cg 0 100 W
  have K3 := fun W => conf_in cf 0 65535 W
  have HR := Aside0.mk hr.1
  have HM := Aside0.mk hr.2
  have HE : Aside0 ((Cf.err ⟨cn, cpi, ce, cg, cf, cp⟩) = if (inB cn 6 12 && inB ce 0 100 && inB cg 0 100 && inB cf 0 65535) = false then 1 else if inB cpi (4 * (ce + cg + 1)) 10000 = false then 1 else if 3 < cp.length then 2 else if (cp.any fun x => !inB x (-1) (cn - 1)) = true then 1 else 0) := ⟨rfl⟩
  have q0 : Aside0 (inB cn 6 12 = true → 6 ≤ cn ∧ cn ≤ 12) := ⟨fun h => by unfold inB at h; simp at h; exact h⟩
  have q1 : Aside0 (inB ce 0 100 = true → 0 ≤ ce ∧ ce ≤ 100) := ⟨fun h => by unfold inB at h; simp at h; exact h⟩
  have q2 : Aside0 (inB cg 0 100 = true → 0 ≤ cg ∧ cg ≤ 100) := ⟨fun h => by unfold inB at h; simp at h; exact h⟩
  generalize Cf.err ⟨cn, cpi, ce, cg, cf, cp⟩ = er at *
  generalize inB cn 6 12 = b0 at *
  generalize inB ce 0 100 = b1 at *
  generalize inB cg 0 100 = b2 at *
  generalize inB cf 0 65535 = b3 at *
  clear hr
  go_enter Tryz.func72, Tryz.ntmps72
  go_wp2
  have HB0 := Aside0.mk (((b_al w (.cells #[.int .i64 cn, .int .i64 cpi, .int .i64 ce, .int .i64 cg, .int .i64 cf, .slice A cp.length m] 50)).alloc (by simp) (.cells #[.int .i64 6, .int .i64 0, .int .i64 0, .int .i64 0] 161)).alloc (by simp; omega) (.cells #[.int .i64 12, .int .i64 100, .int .i64 100, .int .i64 65535] 161))
  have HG0 := Aside0.mk (blk_alloc (blk_alloc (blk_new w (.cells #[.int .i64 cn, .int .i64 cpi, .int .i64 ce, .int .i64 cg, .int .i64 cf, .slice A cp.length m] 50)) (.cells #[.int .i64 6, .int .i64 0, .int .i64 0, .int .i64 0] 161)) (.cells #[.int .i64 12, .int .i64 100, .int .i64 100, .int .i64 65535] 161))
  have HG1 := Aside0.mk (blk_alloc (blk_new (w.alloc (.cells #[.int .i64 cn, .int .i64 cpi, .int .i64 ce, .int .i64 cg, .int .i64 cf, .slice A cp.length m] 50)) (.cells #[.int .i64 6, .int .i64 0, .int .i64 0, .int .i64 0] 161)) (.cells #[.int .i64 12, .int .i64 100, .int .i64 100, .int .i64 65535] 161))
  have HG2 := Aside0.mk (blk_new ((w.alloc (.cells #[.int .i64 cn, .int .i64 cpi, .int .i64 ce, .int .i64 cg, .int .i64 cf, .slice A cp.length m] 50)).alloc (.cells #[.int .i64 6, .int .i64 0, .int .i64 0, .int .i64 0] 161)) (.cells #[.int .i64 12, .int .i64 100, .int .i64 100, .int .i64 65535] 161))
  rw [show (w.alloc (.cells #[.int .i64 cn, .int .i64 cpi, .int .i64 ce, .int .i64 cg, .int .i64 cf, .slice A cp.length m] 50)).heap.size = w.heap.size + 1 by simp] at HG1
  rw [show ((w.alloc (.cells #[.int .i64 cn, .int .i64 cpi, .int .i64 ce, .int .i64 cg, .int .i64 cf, .slice A cp.length m] 50)).alloc (.cells #[.int .i64 6, .int .i64 0, .int .i64 0, .int .i64 0] 161)).heap.size = w.heap.size + 1 + 1 by simp] at HG2
  generalize hW : ((w.alloc (.cells #[.int .i64 cn, .int .i64 cpi, .int .i64 ce, .int .i64 cg, .int .i64 cf, .slice A cp.length m] 50)).alloc (.cells #[.int .i64 6, .int .i64 0, .int .i64 0, .int .i64 0] 161)).alloc (.cells #[.int .i64 12, .int .i64 100, .int .i64 100, .int .i64 65535] 161) = W0 at *
  clear hW
  go_loopw [18] (fun i w' => ∃ k : Nat, i = .int .i64 k ∧ k ≤ 4 ∧ Aside0 ((0 < k → b0 = true) ∧ (1 < k → b1 = true) ∧ (2 < k → b2 = true) ∧ (3 < k → b3 = true)) ∧ Drawn0 W0 w') (fun i _ => 4 - (intOf i).toNat)
  case atStart => exact ⟨0, rfl, by omega, ⟨by simp⟩, Drawn0.refl _⟩
  case round =>
    obtain ⟨k, rfl, hk, hp, hD⟩ := hrel
    have g0 := blk_below HG0.out hD.below
    have g1 := blk_below HG1.out hD.below
    have g2 := blk_below HG2.out hD.below
    have hBB := Aside0.mk (b_tr HB0.out hD.below)
    match k, hk, hp with
    | 0, _, hp =>
      have hix : ∀ w, (Instr.index 161 (.agg #[.int .i64 cn, .int .i64 ce, .int .i64 cg, .int .i64 cf]) (.int .i64 0)).run Tryz.prog w = .ok (.int .i64 cn) w := fun _ => by kernel_rfl
      have x1 : wr.cell? ⟨w.heap.size + 1, 0, none⟩ = some (.int .i64 (6)) := (blk_cell g1 0).trans rfl
      have x2 : wr.cell? ⟨w.heap.size + 1 + 1, 0, none⟩ = some (.int .i64 (12)) := (blk_cell g2 0).trans rfl
      clear g0 g1 g2
      cases b0 with
      | true =>
        go_wp2
        go_quiet ((go_at_call 99; exact Calls.quiet_of_same (K0 _)))
        go_wp2
        go_roundw
        case rel => exact ⟨1, rfl, by omega, ⟨by simp⟩, hD.step _⟩
        case measure => simp [intOf]
      | false =>
        have he : er = 1 := by rw [HE.out]; simp
        subst he
        go_wp2
        go_quiet ((go_at_call 99; exact Calls.quiet_of_same (K0 _)))
        go_wp2
        go_ret
        exact ⟨rfl, pw_below_drewN hBB.out _⟩
    | 1, _, hp =>
      have hix : ∀ w, (Instr.index 161 (.agg #[.int .i64 cn, .int .i64 ce, .int .i64 cg, .int .i64 cf]) (.int .i64 1)).run Tryz.prog w = .ok (.int .i64 ce) w := fun _ => by kernel_rfl
      have x1 : wr.cell? ⟨w.heap.size + 1, 1, none⟩ = some (.int .i64 (0)) := (blk_cell g1 1).trans rfl
      have x2 : wr.cell? ⟨w.heap.size + 1 + 1, 1, none⟩ = some (.int .i64 (100)) := (blk_cell g2 1).trans rfl
      clear g0 g1 g2
      cases b1 with
      | true =>
        go_wp2
        go_quiet ((go_at_call 99; exact Calls.quiet_of_same (K1 _)))
        go_wp2
        go_roundw
        case rel => exact ⟨2, rfl, by omega, ⟨by have := hp.out; simp at this ⊢; try exact this⟩, hD.step _⟩
        case measure => simp [intOf]
      | false =>
        have he : er = 1 := by rw [HE.out]; simp
        subst he
        go_wp2
        go_quiet ((go_at_call 99; exact Calls.quiet_of_same (K1 _)))
        go_wp2
        go_ret
        exact ⟨rfl, pw_below_drewN hBB.out _⟩
    | 2, _, hp =>
      have hix : ∀ w, (Instr.index 161 (.agg #[.int .i64 cn, .int .i64 ce, .int .i64 cg, .int .i64 cf]) (.int .i64 2)).run Tryz.prog w = .ok (.int .i64 cg) w := fun _ => by kernel_rfl
      have x1 : wr.cell? ⟨w.heap.size + 1, 2, none⟩ = some (.int .i64 (0)) := (blk_cell g1 2).trans rfl
      have x2 : wr.cell? ⟨w.heap.size + 1 + 1, 2, none⟩ = some (.int .i64 (100)) := (blk_cell g2 2).trans rfl
      clear g0 g1 g2
      cases b2 with
      | true =>
        go_wp2
        go_quiet ((go_at_call 99; exact Calls.quiet_of_same (K2 _)))
        go_wp2
        go_roundw
        case rel => exact ⟨3, rfl, by omega, ⟨by have := hp.out; simp at this ⊢; try exact this⟩, hD.step _⟩
        case measure => simp [intOf]
      | false =>
        have he : er = 1 := by rw [HE.out]; simp
        subst he
        go_wp2
        go_quiet ((go_at_call 99; exact Calls.quiet_of_same (K2 _)))
        go_wp2
        go_ret
        exact ⟨rfl, pw_below_drewN hBB.out _⟩
    | 3, _, hp =>
      have hix : ∀ w, (Instr.index 161 (.agg #[.int .i64 cn, .int .i64 ce, .int .i64 cg, .int .i64 cf]) (.int .i64 3)).run Tryz.prog w = .ok (.int .i64 cf) w := fun _ => by kernel_rfl
      have x1 : wr.cell? ⟨w.heap.size + 1, 3, none⟩ = some (.int .i64 (0)) := (blk_cell g1 3).trans rfl
      have x2 : wr.cell? ⟨w.heap.size + 1 + 1, 3, none⟩ = some (.int .i64 (65535)) := (blk_cell g2 3).trans rfl
      clear g0 g1 g2
      cases b3 with
      | true =>
        go_wp2
        go_quiet ((go_at_call 99; exact Calls.quiet_of_same (K3 _)))
        go_wp2
        go_roundw
        case rel => exact ⟨4, rfl, by omega, ⟨by have := hp.out; simp at this ⊢; try exact this⟩, hD.step _⟩
        case measure => simp [intOf]
      | false =>
        have he : er = 1 := by rw [HE.out]; simp
        subst he
        go_wp2
        go_quiet ((go_at_call 99; exact Calls.quiet_of_same (K3 _)))
        go_wp2
        go_ret
        exact ⟨rfl, pw_below_drewN hBB.out _⟩
    | 4, _, hp =>
      obtain ⟨e0, e1, e2, e3⟩ := hp.out
      have e0 := e0 (by omega)
      have e1 := e1 (by omega)
      have e2 := e2 (by omega)
      have e3 := e3 (by omega)
      subst e0 e1 e2 e3
      obtain ⟨r0, r1⟩ := q0.out rfl
      obtain ⟨r2, r3⟩ := q1.out rfl
      obtain ⟨r4, r5⟩ := q2.out rfl
      have x0 : wr.cell? ⟨w.heap.size, 0, none⟩ = some (.int .i64 cn) := (blk_cell g0 0).trans rfl
      have x1 : wr.cell? ⟨w.heap.size, 1, none⟩ = some (.int .i64 cpi) := (blk_cell g0 1).trans rfl
      have x2 : wr.cell? ⟨w.heap.size, 2, none⟩ = some (.int .i64 ce) := (blk_cell g0 2).trans rfl
      have x3 : wr.cell? ⟨w.heap.size, 3, none⟩ = some (.int .i64 cg) := (blk_cell g0 3).trans rfl
      have x5 : wr.cell? ⟨w.heap.size, 5, none⟩ = some (.slice A cp.length m) := (blk_cell g0 5).trans rfl
      clear g1 g2 K0 K1 K2 K3 q0 q1 q2 hp
      have K4 := fun W => conf_in cpi (4 * (ce + cg + 1)) 10000 W
      have hE := HE.out
      generalize inB cpi (4 * (ce + cg + 1)) 10000 = b4 at *
      have hH := has_own #[.pointer (some ⟨w.heap.size, 0, none⟩)] (fun x => !inB x (-1) (cn - 1)) A m cp hl wr (Kd.C_below HR.out (hBB.out)) (fun x W hb => by
        have x0' : wr.cell? ⟨w.heap.size, 0, none⟩ = some (.int .i64 cn) := x0
        have hx := (hb.cell (World.block_lt_of_cell? _ _ x0')).trans x0'
        exact conf_own x cn (by omega) (by omega) _ W hx) _ rfl
      generalize (cp.any fun x => !inB x (-1) (cn - 1)) = b5 at *
      have HH := Aside0.mk hH
      clear hH g0
      simp only [Bool.and_self, Bool.true_eq_false, if_false] at hE
      cases b4 with
      | false =>
        have he : er = 1 := by rw [hE]; simp
        subst he
        clear hE HE
        go_wp2_with (go_at_call 99; with_reducible refine (K4 _).mono ?_; rintro e W ⟨rfl, rfl⟩)
        go_ret
        exact ⟨rfl, hBB.out⟩
      | true =>
        simp only [Bool.true_eq_false, if_false] at hE
        by_cases h3 : 3 < cp.length
        · rw [if_pos h3] at hE
          subst hE
          have d3 : decide (3 < (cp.length : Int)) = true := decide_eq_true (by omega)
          have d4 : decide (3 < cp.length) = true := decide_eq_true h3
          clear HE
          go_wp2_with (go_at_call 99; with_reducible refine (K4 _).mono ?_; rintro e W ⟨rfl, rfl⟩)
          go_ret
          exact ⟨rfl, hBB.out⟩
        · rw [if_neg h3] at hE
          have d3 : decide (3 < (cp.length : Int)) = false := decide_eq_false (by omega)
          have d4 : decide (3 < cp.length) = false := decide_eq_false h3
          cases b5 with
          | true =>
            rw [if_pos rfl] at hE
            subst hE
            clear HE h3
            go_wp2_with (first
              | (go_at_call 99; with_reducible refine (K4 _).mono ?_; rintro e W ⟨rfl, rfl⟩)
              | (go_at_call 100; with_reducible refine HH.out.mono ?_; rintro e W ⟨rfl, hb⟩; have HB := Aside0.mk hb; clear hb))
            go_ret
            exact ⟨rfl, b_tr hBB.out HB.out⟩
          | false =>
            rw [if_neg (by simp)] at hE
            subst hE
            clear HE h3
            go_wp2_with (first
              | (go_at_call 99; with_reducible refine (K4 _).mono ?_; rintro e W ⟨rfl, rfl⟩)
              | (go_at_call 100; with_reducible refine HH.out.mono ?_; rintro e W ⟨rfl, hb⟩; have HB := Aside0.mk hb; clear hb))
            go_ret
            exact ⟨rfl, b_tr hBB.out HB.out⟩
    | k + 5, hk, _ => exact absurd hk (by omega)

section
variable {P : Program} {ops : Array Oper} {rest : List Oper} {o : Oper} {a : Act} {Q : Exit → Act → World → Prop} {W : World}
/-- What a block holds with some of its cells written over. -/
def overAt (cur : List Value) (i : Nat) (cs : List Value) : List Value := cur.take i ++ cs ++ cur.drop (i + cs.length)
theorem sets_kp (g : Nat) : ∀ (vs : List Value) (i : Nat) (w : World), Kp (fun k => k = g) w (w.setCells g i vs)
  | [], _, w => Kp.refl _ _
  | v :: r, i, w => (Kp.set_ (F := fun k => k = g) (p := ⟨g, i, none⟩) (Kp.refl _ w) (.inl rfl) v).trans (sets_kp g r (i + 1) _)
/-- A store of some cells into a block that is known whole. -/
theorem store_part (hgd : o.guard = none) (ty : TypeId) (x y : Operand) (ho : o.op = .store ty x y) (g i : Nat) (T : TypeId) (cells : Array Value) (cur : List Value)
    (hx : a.eval x = .pointer (some ⟨g, i, none⟩)) (hy : a.eval y = .agg cells) (hg : W.heap[g]? = some (.cells cur.toArray T (0, 0))) (hfit : i + cells.size ≤ cur.length)
    (hi : (P.info? ty).map (·.size) = some cells.size) (h1 : cells.all (·.oneCell') = true)
    (h : ∀ W', W'.heap[g]? = some (.cells (overAt cur i cells.toList).toArray T (0, 0)) → Kp (fun k => k = g) W W' → wpList P ops Q rest (a.put o.dst undef) W') : wpList P ops Q (o :: rest) a W := by
  refine wpList_store_mid hgd ty x y ho g i cells hx hy (fun j hj => ⟨?_, blk_frozen hg _⟩) hi h1 (h _ ?_ (sets_kp g _ _ _))
  · rw [cell_of_row W g _ _ T (0, 0) hg]
    have : i + j < cur.length := by omega
    simp [this]
  · obtain ⟨cur', h2, _, h4⟩ := setCells_row cells.toList i W cur.toArray hg (by simpa using hfit)
    rw [h2]
    have : cur' = (overAt cur i cells.toList).toArray := by
      apply Array.ext'
      rw [h4]
      simp [overAt]
    rw [this]
end
theorem info_conf : (Tryz.prog.info? 50).map (·.size) = some 6 := by kernel_rfl
end Go.Proofs.YtoamchhmehpgoaaGreatDoor.PSJ
