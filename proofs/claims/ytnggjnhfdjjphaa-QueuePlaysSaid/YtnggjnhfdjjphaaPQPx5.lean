-- Written by the session's own program (wip/gen).
import Derived.Test.YtnggjnhfdjjphaaPQPx0
import Derived.Test.YtnggjnhfdjjphaaPQPx2
import Derived.Test.YtnggjnhfdjjphaaPQPx3
import Derived.Test.YtnggjnhfdjjphaaPQPx4
namespace Go.Proofs.Ytnggjnhfdjjphaa.PQP
open Go.RowKit Go.Proofs.YtnggjnhfdjjphaaW.PrintWords Go.Proofs.YtnggjnhfdjjphaaW.PrintLast Go.Proofs.YtnggjnhfdjjphaaW.PrintMore
attribute [local go_sem] max2_int min2_int max_two min_two max_three min_three max_four min_four   -- for this text's walks alone
set_option linter.unusedVariables false
set_option linter.unusedSimpArgs false

/-! ### plaitinglaw14_QueuePlays: function 5 (by hand) -/
theorem w64_q (n : Int) (h0 : -9223372036854775808 ≤ n) (h1 : n < 9223372036854775808) : wrap64 n = n := by
  unfold wrap64
  omega
theorem tmod_emod_q (a n : Int) (hn : 0 < n) : (if Int.tmod a n < 0 then Int.tmod a n + n else Int.tmod a n) = a % n := by
  have h1 := Int.emod_nonneg a (show n ≠ 0 by omega)
  have h2 := Int.emod_lt_of_pos a hn
  have := @Int.tmod_eq_emod a n
  rw [this]
  by_cases h : 0 ≤ a ∨ n ∣ a
  · rw [if_pos h]
    split <;> omega
  · rw [if_neg h]
    have hd : ¬ a % n = 0 := fun e => h (.inr (Int.dvd_of_emod_eq_zero e))
    have hna : (n.natAbs : Int) = n := by omega
    split <;> omega
theorem tmod_range_q (a n : Int) (hn : 0 < n) : -n < Int.tmod a n ∧ Int.tmod a n < n := by
  have h1 := Int.emod_nonneg a (show n ≠ 0 by omega)
  have h2 := Int.emod_lt_of_pos a hn
  have := tmod_emod_q a n hn
  have h3 := @Int.tmod_eq_emod a n
  by_cases h : 0 ≤ a ∨ n ∣ a
  · rw [if_pos h] at h3; omega
  · rw [if_neg h] at h3
    have hd : ¬ a % n = 0 := fun e => h (.inr (Int.dvd_of_emod_eq_zero e))
    have hna : (n.natAbs : Int) = n := by omega
    omega
/-- A printed 'within': the remainder from nought on. -/
theorem within_eq_q (a n : Int) (hn : 0 < n) (hb : n ≤ 4611686018427387904) :
    (if n = 0 then (none) else (if (Int.tmod a n) < 0 then (some (wrap64 ((Int.tmod a n) + n))) else (some (Int.tmod a n)))) = some (a % n) := by
  have h1 := tmod_range_q a n hn
  have h2 := tmod_emod_q a n hn
  rw [if_neg (by omega), w64_q _ (by omega) (by omega)]
  rw [← h2]
  split <;> rfl
theorem info_int_ : (Try.prog.info? 3).map (fun i => (i.zero, i.size, i.bytes)) = some (some (.int .i64 0), 1, 8) := by kernel_rfl
/-- A queue of the document: what waits lies in a row of its own. -/
def RQ (w0 W : World) (g : Nat) (L : List Int) : Prop := ∃ v, W.heap[g]? = some (.cells #[v] 38 (0, 0)) ∧ w0.heap.size ≤ g ∧ Kd.Q (Kd.int .i64) 3 W w0.heap.size (fun _ => True) v L
/-- Blocks that hold no row of numbers are as they were, but for one. -/
def KeepT (w w' : World) (g : Nat) : Prop := w.heap.size ≤ w'.heap.size ∧ ∀ b cs t, w.heap[b]? = some (.cells cs t (0, 0)) → t ≠ 3 → b ≠ g → w'.heap[b]? = some (.cells cs t (0, 0))
theorem KeepT.refl (w : World) (g : Nat) : KeepT w w g := ⟨Nat.le_refl _, fun _ _ _ h _ _ => h⟩
theorem KeepT.below {w w1 w2 : World} {g : Nat} (h : KeepT w w1 g) (hb : Below w1.heap.size w1 w2) : KeepT w w2 g := ⟨Nat.le_trans h.1 hb.size, fun b cs t h1 h2 h3 => blk_below (h.2 b cs t h1 h2 h3) hb⟩
theorem KeepT.set_ {w w1 : World} {g : Nat} (h : KeepT w w1 g) (j : Nat) (u : Value) : KeepT w (w1.setCell ⟨g, j, none⟩ u) g :=
  ⟨by simpa [World.setCell] using h.1, fun b cs t h1 h2 h3 => blk_far (h.2 b cs t h1 h2 h3) (p := ⟨g, j, none⟩) h3 u⟩
theorem RQ.cell {w0 w : World} {g : Nat} {L : List Int} (h : RQ w0 w g L) : ∃ A c, w.cell? ⟨g, 0, none⟩ = some (.slice A L.length c) ∧ w.frozen? ⟨g, 0, none⟩ = false ∧ g < w.heap.size := by
  obtain ⟨v, hg, hw0, hQ⟩ := h
  obtain ⟨A, c, rfl, _⟩ := Kd.Q_slice hQ
  exact ⟨A, c, (blk_cell hg 0).trans rfl, blk_frozen hg 0, blk_lt hg⟩
theorem RQ.below {w0 w w1 : World} {g : Nat} {L : List Int} (h : RQ w0 w g L) (hb : Below w.heap.size w w1) : RQ w0 w1 g L := by
  obtain ⟨v, hg, hw0, hQ⟩ := h
  exact ⟨v, blk_below hg hb, hw0, Kd.Q_below hQ hb⟩
theorem ref_len (g : Nat) (L : List Int) (w0 w : World) (hI : RQ w0 w g L) :
    Calls Try.prog 32 #[.pointer (some ⟨g, 0, none⟩)] w fun e w' => e = .returned (.int .i64 L.length) ∧ w' = w := by
  obtain ⟨A, c, hc, _⟩ := hI.cell
  clear hI
  go_enter Try.func32, Try.ntmps32
  go_wp2
  go_ret
  exact ⟨rfl, rfl⟩
theorem ref_clear (g : Nat) (L : List Int) (w0 w : World) (hI : RQ w0 w g L) (hB : Below w0.heap.size w0 w) :
    Calls Try.prog 31 #[.pointer (some ⟨g, 0, none⟩)] w fun e w' => e = .returned (.tuple #[]) ∧ RQ w0 w' g [] ∧ Below w0.heap.size w0 w' ∧ KeepT w w' g := by
  obtain ⟨A, c, hc, hf, _⟩ := hI.cell
  have HI := Aside0.mk hI
  have HB := Aside0.mk hB
  clear hI hB
  go_enter Try.func31, Try.ntmps31
  go_wp2
  go_end0
  obtain ⟨v, hg, hw0, hQ⟩ := HI.out
  exact ⟨rfl, ⟨_, blk_put hg 0 _ rfl, hw0, Kd.Q_nil _ _ _ _ _⟩, HB.out.setCell hw0 _, (KeepT.refl w g).set_ 0 _⟩
def sendC (L : List Int) (x : Int) : Int := if x < 0 ∨ 255 < x then 1 else if 4 ≤ L.length then 8 else 0
def sendL (L : List Int) (x : Int) : List Int := if x < 0 ∨ 255 < x then L else if 4 ≤ L.length then L else L ++ [x]
theorem ref_send_bad (g : Nat) (x : Int) (v : Value) (hx : x < 0 ∨ 255 < x) (w : World) :
    Calls Try.prog 28 #[v, .int .i64 x] w fun e w' => e = .returned (.int .i64 1) ∧ w' = w := by
  by_cases h : x < 0
  · have b1 : decide (x < 0) = true := decide_eq_true h
    clear hx h
    go_enter Try.func28, Try.ntmps28
    go_wp2
    go_ret
    exact ⟨rfl, rfl⟩
  · have b1 : decide (x < 0) = false := decide_eq_false h
    have b2 : decide (255 < x) = true := decide_eq_true (by omega)
    clear hx h
    go_enter Try.func28, Try.ntmps28
    go_wp2
    go_ret
    exact ⟨rfl, rfl⟩
theorem ref_send_full (g : Nat) (L : List Int) (x : Int) (h0 : 0 ≤ x) (h1 : x ≤ 255) (h4 : 4 ≤ L.length) (w0 w : World) (hI : RQ w0 w g L) :
    Calls Try.prog 28 #[.pointer (some ⟨g, 0, none⟩), .int .i64 x] w fun e w' => e = .returned (.int .i64 8) ∧ w' = w := by
  obtain ⟨A, c, hc, _⟩ := hI.cell
  have b1 : decide (x < 0) = false := decide_eq_false (by omega)
  have b2 : decide (255 < x) = false := decide_eq_false (by omega)
  have b3 : decide (4 ≤ (L.length : Int)) = true := decide_eq_true (by omega)
  have b4 : decide (4 ≤ L.length) = true := decide_eq_true h4
  clear hI h0 h1 h4
  go_enter Try.func28, Try.ntmps28
  go_wp2
  go_ret
  exact ⟨rfl, rfl⟩
theorem ref_send_put (g : Nat) (L : List Int) (x : Int) (h0 : 0 ≤ x) (h1 : x ≤ 255) (h4 : L.length < 4) (w0 w : World) (hI : RQ w0 w g L) (hB : Below w0.heap.size w0 w) :
    Calls Try.prog 28 #[.pointer (some ⟨g, 0, none⟩), .int .i64 x] w fun e w' => e = .returned (.int .i64 0) ∧ RQ w0 w' g (L ++ [x]) ∧ Below w0.heap.size w0 w' ∧ KeepT w w' g := by
  generalize hLx : L ++ [x] = Lx
  obtain ⟨v, hg, hw0, hQ⟩ := hI
  obtain ⟨A, c, rfl, hlc⟩ := Kd.Q_slice hQ
  have hc : w.cell? ⟨g, 0, none⟩ = some (.slice A L.length c) := (blk_cell hg 0).trans rfl
  have b1 : decide (x < 0) = false := decide_eq_false (by omega)
  have b2 : decide (255 < x) = false := decide_eq_false (by omega)
  have b3 : decide (4 ≤ (L.length : Int)) = false := decide_eq_false (by omega)
  have b4 : decide (4 ≤ L.length) = false := decide_eq_false (by omega)
  have HL := Aside0.mk h4
  have HG := Aside0.mk hg
  have HW := Aside0.mk hw0
  have HQ := Aside0.mk hQ
  have HB := Aside0.mk hB
  clear hg hw0 hQ hB h0 h1 h4 hlc
  go_enter Try.func28, Try.ntmps28
  go_wp2_with ((with_reducible refine gate_builtin (b := .append) (xs := #[.tmp 21, .tmp 23]) rfl ?_); at_builtin; refine Kd.Q_append (Kd.int .i64) (w0 := w0) w0.heap.size rfl (.tmp 21) (.tmp 23) 22 3 (.int .i64 0) 8 rfl Try.underlying22 info_int_ rfl (by decide) (by omega) (.slice A L.length c) L x [.int .i64 x] (fun _ => True) (fun _ => False) rfl rfl ?aP (fun _ hk => hk.elim) (fun _ _ => trivial) HQ.out HB.out HB.out.size (by have := HL.out; omega) ?_; (case aP => exact rfl); intro v1 w1 ho hb hgr hat; rw [hLx] at ho; obtain ⟨A1, c1, rfl, hl1⟩ := Kd.Q_slice ho; clear hl1; have hg1 := blk_grown HG.out hgr (Kd.Q_ne HQ.out HG.out (by decide)); have hc1 : w1.cell? ⟨g, 0, none⟩ = some (.slice A L.length c) := (blk_cell hg1 0).trans rfl; have hf1 := blk_frozen hg1 0; have HO := Aside0.mk ho; have HB1 := Aside0.mk hb; have HR1 := Aside0.mk hgr; have HG1 := Aside0.mk hg1; clear ho hb hgr hat hg1)
  go_ret
  refine ⟨rfl, ⟨_, blk_put HG1.out 0 _ rfl, HW.out, Kd.Q_set HO.out HG1.out (by decide) 0 _⟩, HB1.out.setCell HW.out _, KeepT.set_ ⟨HR1.out.size, fun b cs t h1 h2 h3 => blk_grown h1 HR1.out (Kd.Q_ne HQ.out h1 (Ne.symm h2))⟩ 0 _⟩
theorem ref_send (g : Nat) (L : List Int) (x : Int) (w0 w : World) (hI : RQ w0 w g L) (hB : Below w0.heap.size w0 w) :
    Calls Try.prog 28 #[.pointer (some ⟨g, 0, none⟩), .int .i64 x] w fun e w' => e = .returned (.int .i64 (sendC L x)) ∧ RQ w0 w' g (sendL L x) ∧ Below w0.heap.size w0 w' ∧ KeepT w w' g := by
  unfold sendC sendL
  by_cases hx : x < 0 ∨ 255 < x
  · rw [if_pos hx, if_pos hx]
    refine (ref_send_bad g x _ hx w).mono ?_
    rintro e w' ⟨rfl, rfl⟩
    exact ⟨rfl, hI, hB, KeepT.refl _ _⟩
  · rw [if_neg hx, if_neg hx]
    by_cases h4 : 4 ≤ L.length
    · rw [if_pos h4, if_pos h4]
      refine (ref_send_full g L x (by omega) (by omega) h4 w0 w hI).mono ?_
      rintro e w' ⟨rfl, rfl⟩
      exact ⟨rfl, hI, hB, KeepT.refl _ _⟩
    · rw [if_neg h4, if_neg h4]
      exact ref_send_put g L x (by omega) (by omega) (by omega) w0 w hI hB
theorem ref_next_nil (g : Nat) (w0 w : World) (hI : RQ w0 w g []) (hB : Below w0.heap.size w0 w) :
    Calls Try.prog 29 #[.pointer (some ⟨g, 0, none⟩)] w fun e w' => e = .returned (.agg #[.int .i64 1, .int .i64 0]) ∧ RQ w0 w' g [] ∧ Below w0.heap.size w0 w' ∧ KeepT w w' g := by
  obtain ⟨A, c, hc, _, hlt⟩ := hI.cell
  rw [List.length_nil] at hc
  have HI := Aside0.mk hI
  have HB := Aside0.mk hB
  clear hI hB
  have hu33 := Try.underlying33
  go_enter Try.func29, Try.ntmps29
  go_wp2
  have hb : Below w.heap.size w _ := (Below.refl w.heap.size w).alloc (Nat.le_refl _) (.cells #[.int .i64 1, .int .i64 0] 33)
  exact bodyPost_ret (v := .agg #[.int .i64 1, .int .i64 0]) (by simp [results, Try.results29, go_sem]) rfl ⟨rfl, HI.out.below hb, HB.out.trans (hb.mono HB.out.size), (KeepT.refl w g).below hb⟩
set_option maxHeartbeats 1000000 in
theorem ref_next_cons (g : Nat) (x : Int) (L : List Int) (w0 w : World) (hI : RQ w0 w g (x :: L)) (hB : Below w0.heap.size w0 w) :
    Calls Try.prog 29 #[.pointer (some ⟨g, 0, none⟩)] w fun e w' => e = .returned (.agg #[.int .i64 2, .int .i64 x]) ∧ RQ w0 w' g L ∧ Below w0.heap.size w0 w' ∧ KeepT w w' g := by
  obtain ⟨v, hg, hw0, hQ⟩ := hI
  obtain ⟨gr, o, cap, rfl, hb1, hb2, _⟩ := Kd.Q_form hQ (by simp)
  have hz := (Kd.Q_cell (0 : Int) (show (Kd.scalar (Value.int .i64) (fun _ => rfl)).Q _ _ _ _ _ _ from hQ) 0 (Int.le_refl _) (by simp)).1
  have hD := Kd.Q_drop (k := 1) hQ (by simp)
  obtain ⟨_, _, hsl, hcap⟩ := Kd.Q_slice hQ
  have hn : (x :: L).length = L.length + 1 := rfl
  have hr : rdOf (0 : Int) (x :: L) 0 = x := rfl
  rw [hr] at hz
  simp only [Int.toNat_zero, Nat.add_zero] at hz
  have hc : w.cell? ⟨g, 0, none⟩ = some (.slice (some ⟨gr, o, none⟩) (L.length + 1) cap) := (blk_cell hg 0).trans rfl
  have hf := blk_frozen hg 0
  have hlt := blk_lt hg
  injection hsl with e1 e2 e3
  subst e3
  have hcap2 : L.length + 1 ≤ cap := hcap
  have d1 : ((((L.length + 1 : Nat) : Int)) == 0) = false := beq_eq_false_iff_ne.2 (by omega)
  have d2 : (0 : Int) < ((L.length + 1 : Nat) : Int) := by omega
  have hu33 := Try.underlying33
  have hzl : gr < w.heap.size := hb2
  have hne : g ≠ gr := fun e => by
    have := Kd.Q_ne hQ hg (by decide)
    rw [e] at this
    exact this rfl
  have hc1 : (1 : Int) ≤ ((L.length + 1 : Nat) : Int) := by omega
  by_cases hcc : cap = 1
  · subst hcc
    have hq : Kd.Q (Kd.int .i64) 3 w w0.heap.size (fun _ => True) (.slice (some ⟨gr, o, none⟩) L.length 0) L := hD
    have hL0 : L.length = 0 := by omega
    rw [hL0] at hq
    clear hL0
    have HQQ := Aside0.mk hq
    have HG := Aside0.mk hg
    have HW := Aside0.mk hw0
    have HB := Aside0.mk hB
    clear hq hQ hD hg hw0 hB hn hr e1 e2 hcap hb1 hb2
    go_enter Try.func29, Try.ntmps29
    go_wp2
    all_goals first
      | (exfalso; omega)
      | exact bodyPost_ret (v := .agg #[.int .i64 2, .int .i64 x]) (by simp [results, Try.results29, go_sem]) rfl ⟨rfl, ⟨_, blk_alloc (blk_put HG.out 0 _ rfl) _, HW.out, Kd.Q_alloc (Kd.Q_set HQQ.out HG.out (by decide) 0 _) _⟩, (HB.out.setCell HW.out _).alloc (by simpa [World.setCell] using HB.out.size) _, ((KeepT.refl w g).set_ 0 _).below ((Below.refl _ _).alloc (Nat.le_refl _) _)⟩
  · rw [if_neg hcc] at hD
    have hq : Kd.Q (Kd.int .i64) 3 w w0.heap.size (fun _ => True) (.slice (some ⟨gr, o + 1, none⟩) L.length (cap - 1)) L := hD
    have HQQ := Aside0.mk hq
    have HG := Aside0.mk hg
    have HW := Aside0.mk hw0
    have HB := Aside0.mk hB
    clear hq hQ hD hg hw0 hB hn hr e1 e2 hcap hb1 hb2
    go_enter Try.func29, Try.ntmps29
    go_wp2
    all_goals first
      | (exfalso; omega)
      | exact bodyPost_ret (v := .agg #[.int .i64 2, .int .i64 x]) (by simp [results, Try.results29, go_sem]) rfl ⟨rfl, ⟨_, blk_alloc (blk_put HG.out 0 _ rfl) _, HW.out, Kd.Q_alloc (Kd.Q_set HQQ.out HG.out (by decide) 0 _) _⟩, (HB.out.setCell HW.out _).alloc (by simpa [World.setCell] using HB.out.size) _, ((KeepT.refl w g).set_ 0 _).below ((Below.refl _ _).alloc (Nat.le_refl _) _)⟩
/-- Four places and a number, as a queue that holds L. -/
def QL (f0 f1 f2 f3 n : Int) (L : List Int) : Prop := n = (L.length : Int) ∧ L.length ≤ 4 ∧ L = [f0, f1, f2, f3].take L.length
theorem send_law {f0 f1 f2 f3 n : Int} {L : List Int} (h : QL f0 f1 f2 f3 n L) (v : Int) :
    ∃ g0 g1 g2 g3 m, queue_Queue_Send.f f0 f1 f2 f3 n v = some (sendC L v, g0, g1, g2, g3, m) ∧ QL g0 g1 g2 g3 m (sendL L v) := by
  unfold sendC sendL
  by_cases hv : v < 0 ∨ 255 < v
  · refine ⟨f0, f1, f2, f3, n, ?_, ?_⟩
    · unfold queue_Queue_Send.f
      rw [if_pos hv, if_pos hv]
    · rw [if_pos hv]; exact h
  · rw [if_neg hv, if_neg hv]
    by_cases h4 : 4 ≤ L.length
    · refine ⟨f0, f1, f2, f3, n, ?_, ?_⟩
      · obtain ⟨rfl, _, _⟩ := h
        unfold queue_Queue_Send.f
        rw [if_neg hv, if_pos (by omega), if_pos h4]
      · rw [if_pos h4]; exact h
    · rw [if_neg h4, if_neg h4]
      obtain ⟨rfl, _, e⟩ := h
      unfold queue_Queue_Send.f
      rw [if_neg hv]
      have hl : L.length < 4 := by omega
      match L, hl, e with
      | [], _, _ => exact ⟨v, f1, f2, f3, 1, by simp, rfl, by simp, rfl⟩
      | [a], _, e =>
        simp at e
        subst e
        exact ⟨_, v, f2, f3, 2, by simp, rfl, by simp, rfl⟩
      | [a, b], _, e =>
        simp at e
        obtain ⟨rfl, rfl⟩ := e
        exact ⟨_, _, v, f3, 3, by simp, rfl, by simp, rfl⟩
      | [a, b, c], _, e =>
        simp at e
        obtain ⟨rfl, rfl, rfl⟩ := e
        exact ⟨_, _, _, v, 4, by simp, rfl, by simp, rfl⟩
def nextK : List Int → Int
  | [] => 1
  | _ :: _ => 2
def nextV : List Int → Int
  | [] => 0
  | x :: _ => x
theorem next_law {f0 f1 f2 f3 n : Int} {L : List Int} (h : QL f0 f1 f2 f3 n L) :
    ∃ g0 g1 g2 g3 m, queue_Queue_Next.f f0 f1 f2 f3 n = some (nextK L, nextV L, g0, g1, g2, g3, m) ∧ QL g0 g1 g2 g3 m L.tail := by
  obtain ⟨rfl, hl, e⟩ := h
  unfold queue_Queue_Next.f
  match L, hl, e with
  | [], _, _ => exact ⟨f0, f1, f2, f3, 0, by simp [nextK, nextV], rfl, by simp, rfl⟩
  | [x], _, e =>
    simp at e
    subst e
    exact ⟨x, f1, f2, f3, 0, by simp [nextK, nextV], rfl, by simp, rfl⟩
  | [x, a], _, e =>
    simp at e
    obtain ⟨rfl, rfl⟩ := e
    exact ⟨a, a, f2, f3, 1, by simp [nextK, nextV], rfl, by simp, rfl⟩
  | [x, a, b], _, e =>
    simp at e
    obtain ⟨rfl, rfl, rfl⟩ := e
    exact ⟨a, b, b, f3, 2, by simp [nextK, nextV], rfl, by simp, rfl⟩
  | [x, a, b, c], _, e =>
    simp at e
    obtain ⟨rfl, rfl, rfl, rfl⟩ := e
    exact ⟨a, b, c, c, 3, by simp [nextK, nextV], rfl, by simp, rfl⟩
def IQ (w0 W : World) (g : Nat) (L : List Int) : Prop := ∃ f0 f1 f2 f3 n, IsS27 w0 W g f0 f1 f2 f3 n ∧ QL f0 f1 f2 f3 n L
theorem RQ.keep {w0 w w1 : World} {g h : Nat} {L M : List Int} (hR : RQ w0 w g L) (hI : IQ w0 w h M) (hk : KeepBut w w1 h none) : RQ w0 w1 g L := by
  obtain ⟨v, hg, hw0, hQ⟩ := hR
  obtain ⟨f0, f1, f2, f3, n, ⟨hb, _⟩, _⟩ := hI
  refine ⟨v, KeepBut.blk hk hg (blk_ne hg hb (by decide)) (by simp), hw0, ?_⟩
  exact Kd.Q_mono (Kd.Q_keep (Kd.Q_types hQ hb (by decide)) hk (fun _ h => h.2)) (fun _ _ => trivial)
theorem IQ.keepT {w0 w w1 : World} {g h : Nat} {L M : List Int} (hI : IQ w0 w h M) (hR : RQ w0 w g L) (hk : KeepT w w1 g) : IQ w0 w1 h M := by
  obtain ⟨v, hg, hw0, hQ⟩ := hR
  obtain ⟨f0, f1, f2, f3, n, ⟨hb, hh⟩, hq⟩ := hI
  exact ⟨f0, f1, f2, f3, n, ⟨hk.2 _ _ _ hb (by decide) (blk_ne hb hg (by decide)), hh⟩, hq⟩
theorem IQ.below {w0 w w1 : World} {h : Nat} {M : List Int} (hI : IQ w0 w h M) (hb1 : Below w.heap.size w w1) : IQ w0 w1 h M := by
  obtain ⟨f0, f1, f2, f3, n, ⟨hb, hh⟩, hq⟩ := hI
  exact ⟨f0, f1, f2, f3, n, ⟨blk_below hb hb1, hh⟩, hq⟩
/-- Two queues of one content, apart. -/
structure Both (w0 W : World) (q x : Nat) (L M : List Int) : Prop where
  a : IQ w0 W q L
  b : RQ w0 W x M
  c : Below w0.heap.size w0 W
theorem Both.below {w0 w w1 : World} {q x : Nat} {L M : List Int} (h : Both w0 w q x L M) (hb : Below w.heap.size w w1) : Both w0 w1 q x L M := ⟨h.a.below hb, h.b.below hb, h.c.trans (hb.mono h.c.size)⟩
theorem b_sendq (q x : Nat) (L M : List Int) (v : Int) (w0 w : World) (h : Both w0 w q x L M) :
    Calls Try.prog 24 #[.pointer (some ⟨q, 0, none⟩), .int .i64 v] w fun e w' => e = .returned (.int .i64 (sendC L v)) ∧ Both w0 w' q x (sendL L v) M := by
  obtain ⟨f0, f1, f2, f3, n, hI, hq⟩ := h.a
  obtain ⟨g0, g1, g2, g3, m, hf, hq2⟩ := send_law hq v
  refine (queue_Queue_Send.calls q f0 f1 f2 f3 n v _ g0 g1 g2 g3 m w0 w hI h.c hf).mono ?_
  rintro e w' ⟨rfl, hi, hb, hk⟩
  exact ⟨rfl, ⟨_, _, _, _, _, hi, hq2⟩, h.b.keep h.a hk, hb⟩
theorem b_sendx (q x : Nat) (L M : List Int) (v : Int) (w0 w : World) (h : Both w0 w q x L M) :
    Calls Try.prog 28 #[.pointer (some ⟨x, 0, none⟩), .int .i64 v] w fun e w' => e = .returned (.int .i64 (sendC M v)) ∧ Both w0 w' q x L (sendL M v) := by
  refine (ref_send x M v w0 w h.b h.c).mono ?_
  rintro e w' ⟨rfl, hi, hb, hk⟩
  exact ⟨rfl, h.a.keepT h.b hk, hi, hb⟩
theorem b_nextq (q x : Nat) (L M : List Int) (w0 w : World) (h : Both w0 w q x L M) :
    Calls Try.prog 27 #[.pointer (some ⟨q, 0, none⟩)] w fun e w' => e = .returned (.agg #[.int .i64 (nextK L), .int .i64 (nextV L)]) ∧ Both w0 w' q x L.tail M := by
  obtain ⟨f0, f1, f2, f3, n, hI, hq⟩ := h.a
  obtain ⟨g0, g1, g2, g3, m, hf, hq2⟩ := next_law hq
  refine (queue_Queue_Next.calls q f0 f1 f2 f3 n _ _ g0 g1 g2 g3 m w0 w hI h.c hf).mono ?_
  rintro e w' ⟨rfl, hi, hb, hk⟩
  exact ⟨rfl, ⟨_, _, _, _, _, hi, hq2⟩, h.b.keep h.a hk, hb⟩
theorem b_nextx (q x : Nat) (L M : List Int) (w0 w : World) (h : Both w0 w q x L M) :
    Calls Try.prog 29 #[.pointer (some ⟨x, 0, none⟩)] w fun e w' => e = .returned (.agg #[.int .i64 (nextK M), .int .i64 (nextV M)]) ∧ Both w0 w' q x L M.tail := by
  match M, h with
  | [], h =>
    refine (ref_next_nil x w0 w h.b h.c).mono ?_
    rintro e w' ⟨rfl, hi, hb, hk⟩
    exact ⟨rfl, h.a.keepT h.b hk, hi, hb⟩
  | y :: M, h =>
    refine (ref_next_cons x y M w0 w h.b h.c).mono ?_
    rintro e w' ⟨rfl, hi, hb, hk⟩
    exact ⟨rfl, h.a.keepT h.b hk, hi, hb⟩
theorem b_lenq (q x : Nat) (L M : List Int) (w0 w : World) (h : Both w0 w q x L M) :
    Calls Try.prog 26 #[.pointer (some ⟨q, 0, none⟩)] w fun e w' => e = .returned (.int .i64 L.length) ∧ Both w0 w' q x L M := by
  obtain ⟨f0, f1, f2, f3, n, hI, hq⟩ := h.a
  refine (queue_Queue_Len.calls q f0 f1 f2 f3 n n f0 f1 f2 f3 n w0 w hI h.c rfl).mono ?_
  rintro e w' ⟨rfl, hi, hb, hk⟩
  exact ⟨by rw [hq.1], ⟨_, _, _, _, _, hi, hq⟩, h.b.keep h.a hk, hb⟩
theorem b_lenx (q x : Nat) (L M : List Int) (w0 w : World) (h : Both w0 w q x L M) :
    Calls Try.prog 32 #[.pointer (some ⟨x, 0, none⟩)] w fun e w' => e = .returned (.int .i64 M.length) ∧ Both w0 w' q x L M := by
  refine (ref_len x M w0 w h.b).mono ?_
  rintro e w' ⟨rfl, rfl⟩
  exact ⟨rfl, h⟩
theorem b_clearq (q x : Nat) (L M : List Int) (w0 w : World) (h : Both w0 w q x L M) :
    Calls Try.prog 30 #[.pointer (some ⟨q, 0, none⟩)] w fun e w' => e = .returned (.tuple #[]) ∧ Both w0 w' q x [] M := by
  obtain ⟨f0, f1, f2, f3, n, hI, hq⟩ := h.a
  refine (queue_Queue_Clear.calls q f0 f1 f2 f3 n 0 0 0 0 0 w0 w hI h.c rfl).mono ?_
  rintro e w' ⟨rfl, hi, hb, hk⟩
  exact ⟨rfl, ⟨_, _, _, _, _, hi, rfl, by simp, rfl⟩, h.b.keep h.a hk, hb⟩
theorem b_clearx (q x : Nat) (L M : List Int) (w0 w : World) (h : Both w0 w q x L M) :
    Calls Try.prog 31 #[.pointer (some ⟨x, 0, none⟩)] w fun e w' => e = .returned (.tuple #[]) ∧ Both w0 w' q x L [] := by
  refine (ref_clear x M w0 w h.b h.c).mono ?_
  rintro e w' ⟨rfl, hi, hb, hk⟩
  exact ⟨rfl, h.a.keepT h.b hk, hi, hb⟩
theorem keep_ce {w W : World} {p : Addr} {v : Value} (hb : Below w.heap.size w W) (hx : w.cell? p = some v) : W.cell? p = some v := (hb.cell (World.block_lt_of_cell? w _ hx)).trans hx
theorem keep_cd {w W : World} {p : Addr} {v : Value} (hb : Below w.drew.heap.size w.drew W) (hx : w.cell? p = some v) : W.cell? p = some v := keep_ce (w := w.drew) hb hx
theorem keep_al {w : World} {p : Addr} {v : Value} (o : Obj) (hx : w.cell? p = some v) : (w.alloc o).cell? p = some v := keep_ce ((Below.refl _ _).alloc (Nat.le_refl _) o) hx
def two_ (v y : Int) (b : Nat) : Int := if b = 0 then v else y
theorem cells2 (W : World) (v y : Int) (b : Nat) (h : b < 2) : (W.alloc (.cells #[.int .i64 v, .int .i64 y] 3)).cell? ⟨W.heap.size, b, none⟩ = some (.int .i64 (two_ v y b)) := by
  unfold World.cell?
  rw [heap_alloc_new]
  match b, h with
  | 0, _ => rfl
  | 1, _ => rfl
theorem arm2 {w W5 W6 : World} {q x : Nat} {L M : List Int} {p : Addr} {v y k : Int} (hb : Below (W5.alloc (.cells #[.int .i64 v, .int .i64 y] 3)).heap.size (W5.alloc (.cells #[.int .i64 v, .int .i64 y] 3)) W6) (hx : W5.cell? p = some (.int .i64 k)) (hZ : Both w W5 q x L M) :
    W6.cell? p = some (.int .i64 k) ∧ W6.cell? ⟨W5.heap.size, 0, none⟩ = some (.int .i64 v) ∧ W6.cell? ⟨W5.heap.size, 1, none⟩ = some (.int .i64 y) ∧ Both w W6 q x L M :=
  ⟨keep_ce hb (keep_al _ hx), keep_ce hb (cells2 W5 v y 0 (by decide)), keep_ce hb (cells2 W5 v y 1 (by decide)), (hZ.below ((Below.refl _ _).alloc (Nat.le_refl _) _)).below hb⟩
theorem both_new {w W : World} (hb : Below w.heap.size w W) : Both w ((W.alloc (.cells #[.int .i64 0, .int .i64 0, .int .i64 0, .int .i64 0, .int .i64 0] 27)).alloc (.cells #[.slice none 0 0] 38)) W.heap.size (W.heap.size + 1) [] [] := by
  have h1 := blk_new W (.cells #[.int .i64 0, .int .i64 0, .int .i64 0, .int .i64 0, .int .i64 0] 27)
  have h2 := blk_new (W.alloc (.cells #[.int .i64 0, .int .i64 0, .int .i64 0, .int .i64 0, .int .i64 0] 27)) (.cells #[.slice none 0 0] 38)
  rw [show (W.alloc (.cells #[.int .i64 0, .int .i64 0, .int .i64 0, .int .i64 0, .int .i64 0] 27)).heap.size = W.heap.size + 1 by simp] at h2
  exact ⟨⟨0, 0, 0, 0, 0, ⟨blk_alloc h1 _, hb.size⟩, rfl, by simp, rfl⟩, ⟨_, h2, Nat.le_succ_of_le hb.size, Kd.Q_nil _ _ _ _ _⟩, (hb.alloc hb.size _).alloc (by simpa using Nat.le_succ_of_le hb.size) _⟩
set_option maxHeartbeats 20000000 in
theorem plays_walk (A0 : Option Addr) (c0 : Nat) (l0 : List Int) (A1 : Option Addr) (c1 : Nat) (l1 : List Int) (hk : plaitinglaw14_known.f = some true) (hw8 : ∀ a : Int, ∃ r : Nat, plaitinglaw14_within.f a 8 = some (r : Int) ∧ r < 8) (hw2 : ∀ a : Int, plaitinglaw14_within.f a 2 = some 0 ∨ plaitinglaw14_within.f a 2 = some 1) (hw256 : ∀ a : Int, ∃ r : Int, plaitinglaw14_within.f a 256 = some r) (w : World) (hr0 : Kd.C (Kd.int .i64) w A0 l0.length l0) (hr1 : Kd.C (Kd.int .i64) w A1 l1.length l1) :
    Calls Try.prog 5 #[.slice A0 l0.length c0, .slice A1 l1.length c1] w fun e w' => e = .returned (.bool true) ∧ Below w.heap.size w w' := by
  have HR0 := Aside0.mk hr0
  have HR1 := Aside0.mk hr1
  clear hr0 hr1
  have hu33 := Try.underlying33
  go_enter Try.func5, Try.ntmps5
  go_wp2_with (first
    | (go_at_call 23; with_reducible refine (plaitinglaw14_known.calls true _ hk).mono ?_; rintro e W ⟨rfl, hb⟩))
  have HZ := Aside0.mk (both_new hb)
  clear hb hk
  generalize hq : W.heap.size = q at HZ ⊢
  generalize hx : q + 1 = x at HZ ⊢
  clear hq hx
  go_loopw [7] (fun i w' => ∃ (n : Nat) (L : List Int), i = .int .i64 n ∧ n ≤ 100 ∧ Aside0 (Both w w' q x L L)) (fun i _ => 100 - (intOf i).toNat)
  case atStart => exact ⟨0, [], rfl, by omega, HZ⟩
  case round =>
    clear HZ
    obtain ⟨n, L, rfl, hn, HZ⟩ := hrel
    by_cases h1 : n < l0.length
    · have d1 : decide ((n : Int) < (l0.length : Int)) = true := decide_eq_true (by omega)
      by_cases h2 : n < 100
      · have d2 : decide ((n : Int) < 100) = true := decide_eq_true (by omega)
        have p0 : (0 : Int) ≤ (n : Int) := Int.natCast_nonneg n
        have q0 : (n : Int) < (l0.length : Int) := by omega
        obtain ⟨ad0, e0, hx0⟩ := Kd.at_int HR0.out (n : Int) p0 q0
        subst e0
        rw [Int.toNat_natCast] at hx0
        have HX := Aside0.mk hx0
        have hx := (HZ.out.c.cell (World.block_lt_of_cell? w _ hx0)).trans hx0
        clear hx0
        generalize rd l0 n = kd at HX hx
        obtain ⟨r, hr, hr8⟩ := hw8 kd
        by_cases h3 : n < l1.length
        · have d3 : decide ((n : Int) < (l1.length : Int)) = true := decide_eq_true (by omega)
          have q1 : (n : Int) < (l1.length : Int) := by omega
          obtain ⟨ad1, e1, hy0⟩ := Kd.at_int HR1.out (n : Int) p0 q1
          subst e1
          rw [Int.toNat_natCast] at hy0
          have hy := (HZ.out.c.cell (World.block_lt_of_cell? w _ hy0)).trans hy0
          clear hy0
          generalize rd l1 n = v at hy
          obtain ⟨y, hyy⟩ := hw256 v
          have hb2 := hw2 (IntKind.i64.wrap (kd.tdiv 8))
          go_upto_if 40 with (first
            | (go_at_call 25; with_reducible refine (plaitinglaw14_within.calls kd 8 _ _ hr).mono ?_; rintro e W ⟨rfl, hd⟩; have HZ1 := Aside0.mk (HZ.out.below hd.below); have hx1 := Aside0.mk ((hd.below.cell (World.block_lt_of_cell? wr _ hx)).trans hx); clear hd HZ hx; have HZ := HZ1; clear HZ1))
          (try simp only [Act.put, List.setIfInBounds_toArray, List.set_cons_zero, List.set_cons_succ])
          go_cut [40] (fun v40 wc => v40 = .bool (decide (r < 4)) ∧ Aside0 (Both w wc q x L L) ∧ Aside0 (wc.cell? (ad0.add n) = some (.int .i64 kd)))
          case first =>
            match r, hr8 with
            | 0, _ =>
              go_wp2
              go_meet
              case rel => exact ⟨rfl, HZ, hx1⟩
            | 1, _ =>
              go_wp2
              go_meet
              case rel => exact ⟨rfl, HZ, hx1⟩
            | 2, _ =>
              go_wp2
              go_meet
              case rel => exact ⟨rfl, HZ, hx1⟩
            | 3, _ =>
              go_wp2
              go_meet
              case rel => exact ⟨rfl, HZ, hx1⟩
            | 4, _ =>
              go_wp2
              go_meet
              case rel => exact ⟨rfl, HZ, hx1⟩
            | 5, _ =>
              go_wp2
              go_meet
              case rel => exact ⟨rfl, HZ, hx1⟩
            | 6, _ =>
              go_wp2
              go_meet
              case rel => exact ⟨rfl, HZ, hx1⟩
            | 7, _ =>
              go_wp2
              go_meet
              case rel => exact ⟨rfl, HZ, hx1⟩
          case rest =>
            clear HZ hx1
            obtain ⟨rfl, HZ, hx1⟩ := hcut
            have hx1 := hx1.out
            have HZC := HZ
            by_cases hr4 : r < 4
            · have d4 : decide (r < 4) = true := decide_eq_true hr4
              rw [d4]
              clear HZC d4
              rcases hb2 with hb2 | hb2
              · go_wp2
                go_region_with (first
                  | (go_at_call 25; with_reducible refine (plaitinglaw14_within.calls (v) 256 y _ hyy).mono ?_; rintro e W5 ⟨rfl, hd⟩; (first | have hx5 := keep_ce hd.below hx1 | have hx5 := keep_cd hd.below hx1); have hx5a := keep_al (.cells #[.int .i64 (v), .int .i64 y] 3) hx5; (first | have HZ5 := Aside0.mk (HZ.out.below hd.below) | have HZ5 := Aside0.mk ((HZ.out.below (below_drew1 (Below.refl _ _))).below hd.below)); clear hd)
                  | (go_at_call 25; with_reducible refine (plaitinglaw14_within.calls (IntKind.i64.wrap (kd.tdiv 8)) 2 0 _ hb2).mono ?_; rintro e W6 ⟨rfl, hd⟩; (first | (obtain ⟨hx6, hz0, hz1, hZ6⟩ := arm2 hd.below hx5 HZ5.out; have HZC := Aside0.mk hZ6; clear hd hZ6) | (have hx6 := keep_ce hd.below hx5; have HZC := Aside0.mk (HZ5.out.below hd.below); clear hd))))
                all_goals
                  go_wp2_with (first
                    | (go_at_call 24; with_reducible refine (b_sendq q x L L (v) w _ (by first | exact HZC.out | exact HZC.out.below ((Below.refl _ _).alloc (Nat.le_refl _) _))).mono ?_; rintro e WN ⟨rfl, hBN⟩; clear HZC; have HZC := Aside0.mk hBN; clear hBN)
                    | (go_at_call 28; with_reducible refine (b_sendx q x (sendL L (v)) L (v) w _ (by first | exact HZC.out | exact HZC.out.below ((Below.refl _ _).alloc (Nat.le_refl _) _))).mono ?_; rintro e WN ⟨rfl, hBN⟩; clear HZC; have HZC := Aside0.mk hBN; clear hBN)
                    | (go_at_call 26; with_reducible refine (b_lenq q x (sendL L (v)) (sendL L (v)) w _ (by first | exact HZC.out | exact HZC.out.below ((Below.refl _ _).alloc (Nat.le_refl _) _))).mono ?_; rintro e WN ⟨rfl, hBN⟩; clear HZC; have HZC := Aside0.mk hBN; clear hBN)
                    | (go_at_call 32; with_reducible refine (b_lenx q x (sendL L (v)) (sendL L (v)) w _ (by first | exact HZC.out | exact HZC.out.below ((Below.refl _ _).alloc (Nat.le_refl _) _))).mono ?_; rintro e WN ⟨rfl, hBN⟩; clear HZC; have HZC := Aside0.mk hBN; clear hBN))
                  go_roundw
                  case rel => exact ⟨n + 1, sendL L (v), by simp, by omega, HZC⟩
                  case measure => simp [intOf]; omega
              · go_wp2
                go_region_with (first
                  | (go_at_call 25; with_reducible refine (plaitinglaw14_within.calls (v) 256 y _ hyy).mono ?_; rintro e W5 ⟨rfl, hd⟩; (first | have hx5 := keep_ce hd.below hx1 | have hx5 := keep_cd hd.below hx1); have hx5a := keep_al (.cells #[.int .i64 (v), .int .i64 y] 3) hx5; (first | have HZ5 := Aside0.mk (HZ.out.below hd.below) | have HZ5 := Aside0.mk ((HZ.out.below (below_drew1 (Below.refl _ _))).below hd.below)); clear hd)
                  | (go_at_call 25; with_reducible refine (plaitinglaw14_within.calls (IntKind.i64.wrap (kd.tdiv 8)) 2 1 _ hb2).mono ?_; rintro e W6 ⟨rfl, hd⟩; (first | (obtain ⟨hx6, hz0, hz1, hZ6⟩ := arm2 hd.below hx5 HZ5.out; have HZC := Aside0.mk hZ6; clear hd hZ6) | (have hx6 := keep_ce hd.below hx5; have HZC := Aside0.mk (HZ5.out.below hd.below); clear hd))))
                all_goals
                  go_wp2_with (first
                    | (go_at_call 24; with_reducible refine (b_sendq q x L L y w _ (by first | exact HZC.out | exact HZC.out.below ((Below.refl _ _).alloc (Nat.le_refl _) _))).mono ?_; rintro e WN ⟨rfl, hBN⟩; clear HZC; have HZC := Aside0.mk hBN; clear hBN)
                    | (go_at_call 28; with_reducible refine (b_sendx q x (sendL L y) L y w _ (by first | exact HZC.out | exact HZC.out.below ((Below.refl _ _).alloc (Nat.le_refl _) _))).mono ?_; rintro e WN ⟨rfl, hBN⟩; clear HZC; have HZC := Aside0.mk hBN; clear hBN)
                    | (go_at_call 26; with_reducible refine (b_lenq q x (sendL L y) (sendL L y) w _ (by first | exact HZC.out | exact HZC.out.below ((Below.refl _ _).alloc (Nat.le_refl _) _))).mono ?_; rintro e WN ⟨rfl, hBN⟩; clear HZC; have HZC := Aside0.mk hBN; clear hBN)
                    | (go_at_call 32; with_reducible refine (b_lenx q x (sendL L y) (sendL L y) w _ (by first | exact HZC.out | exact HZC.out.below ((Below.refl _ _).alloc (Nat.le_refl _) _))).mono ?_; rintro e WN ⟨rfl, hBN⟩; clear HZC; have HZC := Aside0.mk hBN; clear hBN))
                  go_roundw
                  case rel => exact ⟨n + 1, sendL L y, by simp, by omega, HZC⟩
                  case measure => simp [intOf]; omega
            · have d4 : decide (r < 4) = false := decide_eq_false hr4
              rw [d4]
              clear d4
              match r, hr8, hr4 with
              | 0, _, hr4 => exact absurd (by decide) hr4
              | 1, _, hr4 => exact absurd (by decide) hr4
              | 2, _, hr4 => exact absurd (by decide) hr4
              | 3, _, hr4 => exact absurd (by decide) hr4
              | 4, _, _ =>
                go_wp2_with (first
                  | (go_at_call 27; with_reducible refine (b_nextq q x L L w _ (by first | exact HZC.out | exact HZC.out.below ((Below.refl _ _).alloc (Nat.le_refl _) _))).mono ?_; rintro e WN ⟨rfl, hBN⟩; clear HZC; have HZC := Aside0.mk hBN; clear hBN)
                  | (go_at_call 29; with_reducible refine (b_nextx q x (L.tail) L w _ (by first | exact HZC.out | exact HZC.out.below ((Below.refl _ _).alloc (Nat.le_refl _) _))).mono ?_; rintro e WN ⟨rfl, hBN⟩; clear HZC; have HZC := Aside0.mk hBN; clear hBN)
                  | (go_at_call 26; with_reducible refine (b_lenq q x (L.tail) (L.tail) w _ (by first | exact HZC.out | exact HZC.out.below ((Below.refl _ _).alloc (Nat.le_refl _) _))).mono ?_; rintro e WN ⟨rfl, hBN⟩; clear HZC; have HZC := Aside0.mk hBN; clear hBN)
                  | (go_at_call 32; with_reducible refine (b_lenx q x (L.tail) (L.tail) w _ (by first | exact HZC.out | exact HZC.out.below ((Below.refl _ _).alloc (Nat.le_refl _) _))).mono ?_; rintro e WN ⟨rfl, hBN⟩; clear HZC; have HZC := Aside0.mk hBN; clear hBN))
                go_roundw
                case rel => exact ⟨n + 1, L.tail, by simp, by omega, HZC⟩
                case measure => simp [intOf]; omega
              | 5, _, _ =>
                go_wp2_with (first
                  | (go_at_call 27; with_reducible refine (b_nextq q x L L w _ (by first | exact HZC.out | exact HZC.out.below ((Below.refl _ _).alloc (Nat.le_refl _) _))).mono ?_; rintro e WN ⟨rfl, hBN⟩; clear HZC; have HZC := Aside0.mk hBN; clear hBN)
                  | (go_at_call 29; with_reducible refine (b_nextx q x (L.tail) L w _ (by first | exact HZC.out | exact HZC.out.below ((Below.refl _ _).alloc (Nat.le_refl _) _))).mono ?_; rintro e WN ⟨rfl, hBN⟩; clear HZC; have HZC := Aside0.mk hBN; clear hBN)
                  | (go_at_call 26; with_reducible refine (b_lenq q x (L.tail) (L.tail) w _ (by first | exact HZC.out | exact HZC.out.below ((Below.refl _ _).alloc (Nat.le_refl _) _))).mono ?_; rintro e WN ⟨rfl, hBN⟩; clear HZC; have HZC := Aside0.mk hBN; clear hBN)
                  | (go_at_call 32; with_reducible refine (b_lenx q x (L.tail) (L.tail) w _ (by first | exact HZC.out | exact HZC.out.below ((Below.refl _ _).alloc (Nat.le_refl _) _))).mono ?_; rintro e WN ⟨rfl, hBN⟩; clear HZC; have HZC := Aside0.mk hBN; clear hBN))
                go_roundw
                case rel => exact ⟨n + 1, L.tail, by simp, by omega, HZC⟩
                case measure => simp [intOf]; omega
              | 6, _, _ =>
                go_wp2_with (first
                  | (go_at_call 27; with_reducible refine (b_nextq q x L L w _ (by first | exact HZC.out | exact HZC.out.below ((Below.refl _ _).alloc (Nat.le_refl _) _))).mono ?_; rintro e WN ⟨rfl, hBN⟩; clear HZC; have HZC := Aside0.mk hBN; clear hBN)
                  | (go_at_call 29; with_reducible refine (b_nextx q x (L.tail) L w _ (by first | exact HZC.out | exact HZC.out.below ((Below.refl _ _).alloc (Nat.le_refl _) _))).mono ?_; rintro e WN ⟨rfl, hBN⟩; clear HZC; have HZC := Aside0.mk hBN; clear hBN)
                  | (go_at_call 26; with_reducible refine (b_lenq q x (L.tail) (L.tail) w _ (by first | exact HZC.out | exact HZC.out.below ((Below.refl _ _).alloc (Nat.le_refl _) _))).mono ?_; rintro e WN ⟨rfl, hBN⟩; clear HZC; have HZC := Aside0.mk hBN; clear hBN)
                  | (go_at_call 32; with_reducible refine (b_lenx q x (L.tail) (L.tail) w _ (by first | exact HZC.out | exact HZC.out.below ((Below.refl _ _).alloc (Nat.le_refl _) _))).mono ?_; rintro e WN ⟨rfl, hBN⟩; clear HZC; have HZC := Aside0.mk hBN; clear hBN))
                go_roundw
                case rel => exact ⟨n + 1, L.tail, by simp, by omega, HZC⟩
                case measure => simp [intOf]; omega
              | 7, _, _ =>
                go_wp2_with (first
                  | (go_at_call 30; with_reducible refine (b_clearq q x L L w _ (by first | exact HZC.out | exact HZC.out.below ((Below.refl _ _).alloc (Nat.le_refl _) _))).mono ?_; rintro e WN ⟨rfl, hBN⟩; clear HZC; have HZC := Aside0.mk hBN; clear hBN)
                  | (go_at_call 31; with_reducible refine (b_clearx q x ([] : List Int) L w _ (by first | exact HZC.out | exact HZC.out.below ((Below.refl _ _).alloc (Nat.le_refl _) _))).mono ?_; rintro e WN ⟨rfl, hBN⟩; clear HZC; have HZC := Aside0.mk hBN; clear hBN)
                  | (go_at_call 26; with_reducible refine (b_lenq q x (([] : List Int)) (([] : List Int)) w _ (by first | exact HZC.out | exact HZC.out.below ((Below.refl _ _).alloc (Nat.le_refl _) _))).mono ?_; rintro e WN ⟨rfl, hBN⟩; clear HZC; have HZC := Aside0.mk hBN; clear hBN)
                  | (go_at_call 32; with_reducible refine (b_lenx q x (([] : List Int)) (([] : List Int)) w _ (by first | exact HZC.out | exact HZC.out.below ((Below.refl _ _).alloc (Nat.le_refl _) _))).mono ?_; rintro e WN ⟨rfl, hBN⟩; clear HZC; have HZC := Aside0.mk hBN; clear hBN))
                go_roundw
                case rel => exact ⟨n + 1, ([] : List Int), by simp, by omega, HZC⟩
                case measure => simp [intOf]; omega
        · have d3 : decide ((n : Int) < (l1.length : Int)) = false := decide_eq_false (by omega)
          obtain ⟨y, hyy⟩ := hw256 (n : Int)
          have hb2 := hw2 (IntKind.i64.wrap (kd.tdiv 8))
          go_upto_if 40 with (first
            | (go_at_call 25; with_reducible refine (plaitinglaw14_within.calls kd 8 _ _ hr).mono ?_; rintro e W ⟨rfl, hd⟩; have HZ1 := Aside0.mk (HZ.out.below hd.below); have hx1 := Aside0.mk ((hd.below.cell (World.block_lt_of_cell? wr _ hx)).trans hx); clear hd HZ hx; have HZ := HZ1; clear HZ1))
          (try simp only [Act.put, List.setIfInBounds_toArray, List.set_cons_zero, List.set_cons_succ])
          go_cut [40] (fun v40 wc => v40 = .bool (decide (r < 4)) ∧ Aside0 (Both w wc q x L L) ∧ Aside0 (wc.cell? (ad0.add n) = some (.int .i64 kd)))
          case first =>
            match r, hr8 with
            | 0, _ =>
              go_wp2
              go_meet
              case rel => exact ⟨rfl, HZ, hx1⟩
            | 1, _ =>
              go_wp2
              go_meet
              case rel => exact ⟨rfl, HZ, hx1⟩
            | 2, _ =>
              go_wp2
              go_meet
              case rel => exact ⟨rfl, HZ, hx1⟩
            | 3, _ =>
              go_wp2
              go_meet
              case rel => exact ⟨rfl, HZ, hx1⟩
            | 4, _ =>
              go_wp2
              go_meet
              case rel => exact ⟨rfl, HZ, hx1⟩
            | 5, _ =>
              go_wp2
              go_meet
              case rel => exact ⟨rfl, HZ, hx1⟩
            | 6, _ =>
              go_wp2
              go_meet
              case rel => exact ⟨rfl, HZ, hx1⟩
            | 7, _ =>
              go_wp2
              go_meet
              case rel => exact ⟨rfl, HZ, hx1⟩
          case rest =>
            clear HZ hx1
            obtain ⟨rfl, HZ, hx1⟩ := hcut
            have hx1 := hx1.out
            have HZC := HZ
            by_cases hr4 : r < 4
            · have d4 : decide (r < 4) = true := decide_eq_true hr4
              rw [d4]
              clear HZC d4
              rcases hb2 with hb2 | hb2
              · go_wp2
                go_region_with (first
                  | (go_at_call 25; with_reducible refine (plaitinglaw14_within.calls (n : Int) 256 y _ hyy).mono ?_; rintro e W5 ⟨rfl, hd⟩; (first | have hx5 := keep_ce hd.below hx1 | have hx5 := keep_cd hd.below hx1); have hx5a := keep_al (.cells #[.int .i64 (n : Int), .int .i64 y] 3) hx5; (first | have HZ5 := Aside0.mk (HZ.out.below hd.below) | have HZ5 := Aside0.mk ((HZ.out.below (below_drew1 (Below.refl _ _))).below hd.below)); clear hd)
                  | (go_at_call 25; with_reducible refine (plaitinglaw14_within.calls (IntKind.i64.wrap (kd.tdiv 8)) 2 0 _ hb2).mono ?_; rintro e W6 ⟨rfl, hd⟩; (first | (obtain ⟨hx6, hz0, hz1, hZ6⟩ := arm2 hd.below hx5 HZ5.out; have HZC := Aside0.mk hZ6; clear hd hZ6) | (have hx6 := keep_ce hd.below hx5; have HZC := Aside0.mk (HZ5.out.below hd.below); clear hd))))
                all_goals
                  go_wp2_with (first
                    | (go_at_call 24; with_reducible refine (b_sendq q x L L (n : Int) w _ (by first | exact HZC.out | exact HZC.out.below ((Below.refl _ _).alloc (Nat.le_refl _) _))).mono ?_; rintro e WN ⟨rfl, hBN⟩; clear HZC; have HZC := Aside0.mk hBN; clear hBN)
                    | (go_at_call 28; with_reducible refine (b_sendx q x (sendL L (n : Int)) L (n : Int) w _ (by first | exact HZC.out | exact HZC.out.below ((Below.refl _ _).alloc (Nat.le_refl _) _))).mono ?_; rintro e WN ⟨rfl, hBN⟩; clear HZC; have HZC := Aside0.mk hBN; clear hBN)
                    | (go_at_call 26; with_reducible refine (b_lenq q x (sendL L (n : Int)) (sendL L (n : Int)) w _ (by first | exact HZC.out | exact HZC.out.below ((Below.refl _ _).alloc (Nat.le_refl _) _))).mono ?_; rintro e WN ⟨rfl, hBN⟩; clear HZC; have HZC := Aside0.mk hBN; clear hBN)
                    | (go_at_call 32; with_reducible refine (b_lenx q x (sendL L (n : Int)) (sendL L (n : Int)) w _ (by first | exact HZC.out | exact HZC.out.below ((Below.refl _ _).alloc (Nat.le_refl _) _))).mono ?_; rintro e WN ⟨rfl, hBN⟩; clear HZC; have HZC := Aside0.mk hBN; clear hBN))
                  go_roundw
                  case rel => exact ⟨n + 1, sendL L (n : Int), by simp, by omega, HZC⟩
                  case measure => simp [intOf]; omega
              · go_wp2
                go_region_with (first
                  | (go_at_call 25; with_reducible refine (plaitinglaw14_within.calls (n : Int) 256 y _ hyy).mono ?_; rintro e W5 ⟨rfl, hd⟩; (first | have hx5 := keep_ce hd.below hx1 | have hx5 := keep_cd hd.below hx1); have hx5a := keep_al (.cells #[.int .i64 (n : Int), .int .i64 y] 3) hx5; (first | have HZ5 := Aside0.mk (HZ.out.below hd.below) | have HZ5 := Aside0.mk ((HZ.out.below (below_drew1 (Below.refl _ _))).below hd.below)); clear hd)
                  | (go_at_call 25; with_reducible refine (plaitinglaw14_within.calls (IntKind.i64.wrap (kd.tdiv 8)) 2 1 _ hb2).mono ?_; rintro e W6 ⟨rfl, hd⟩; (first | (obtain ⟨hx6, hz0, hz1, hZ6⟩ := arm2 hd.below hx5 HZ5.out; have HZC := Aside0.mk hZ6; clear hd hZ6) | (have hx6 := keep_ce hd.below hx5; have HZC := Aside0.mk (HZ5.out.below hd.below); clear hd))))
                all_goals
                  go_wp2_with (first
                    | (go_at_call 24; with_reducible refine (b_sendq q x L L y w _ (by first | exact HZC.out | exact HZC.out.below ((Below.refl _ _).alloc (Nat.le_refl _) _))).mono ?_; rintro e WN ⟨rfl, hBN⟩; clear HZC; have HZC := Aside0.mk hBN; clear hBN)
                    | (go_at_call 28; with_reducible refine (b_sendx q x (sendL L y) L y w _ (by first | exact HZC.out | exact HZC.out.below ((Below.refl _ _).alloc (Nat.le_refl _) _))).mono ?_; rintro e WN ⟨rfl, hBN⟩; clear HZC; have HZC := Aside0.mk hBN; clear hBN)
                    | (go_at_call 26; with_reducible refine (b_lenq q x (sendL L y) (sendL L y) w _ (by first | exact HZC.out | exact HZC.out.below ((Below.refl _ _).alloc (Nat.le_refl _) _))).mono ?_; rintro e WN ⟨rfl, hBN⟩; clear HZC; have HZC := Aside0.mk hBN; clear hBN)
                    | (go_at_call 32; with_reducible refine (b_lenx q x (sendL L y) (sendL L y) w _ (by first | exact HZC.out | exact HZC.out.below ((Below.refl _ _).alloc (Nat.le_refl _) _))).mono ?_; rintro e WN ⟨rfl, hBN⟩; clear HZC; have HZC := Aside0.mk hBN; clear hBN))
                  go_roundw
                  case rel => exact ⟨n + 1, sendL L y, by simp, by omega, HZC⟩
                  case measure => simp [intOf]; omega
            · have d4 : decide (r < 4) = false := decide_eq_false hr4
              rw [d4]
              clear d4
              match r, hr8, hr4 with
              | 0, _, hr4 => exact absurd (by decide) hr4
              | 1, _, hr4 => exact absurd (by decide) hr4
              | 2, _, hr4 => exact absurd (by decide) hr4
              | 3, _, hr4 => exact absurd (by decide) hr4
              | 4, _, _ =>
                go_wp2_with (first
                  | (go_at_call 27; with_reducible refine (b_nextq q x L L w _ (by first | exact HZC.out | exact HZC.out.below ((Below.refl _ _).alloc (Nat.le_refl _) _))).mono ?_; rintro e WN ⟨rfl, hBN⟩; clear HZC; have HZC := Aside0.mk hBN; clear hBN)
                  | (go_at_call 29; with_reducible refine (b_nextx q x (L.tail) L w _ (by first | exact HZC.out | exact HZC.out.below ((Below.refl _ _).alloc (Nat.le_refl _) _))).mono ?_; rintro e WN ⟨rfl, hBN⟩; clear HZC; have HZC := Aside0.mk hBN; clear hBN)
                  | (go_at_call 26; with_reducible refine (b_lenq q x (L.tail) (L.tail) w _ (by first | exact HZC.out | exact HZC.out.below ((Below.refl _ _).alloc (Nat.le_refl _) _))).mono ?_; rintro e WN ⟨rfl, hBN⟩; clear HZC; have HZC := Aside0.mk hBN; clear hBN)
                  | (go_at_call 32; with_reducible refine (b_lenx q x (L.tail) (L.tail) w _ (by first | exact HZC.out | exact HZC.out.below ((Below.refl _ _).alloc (Nat.le_refl _) _))).mono ?_; rintro e WN ⟨rfl, hBN⟩; clear HZC; have HZC := Aside0.mk hBN; clear hBN))
                go_roundw
                case rel => exact ⟨n + 1, L.tail, by simp, by omega, HZC⟩
                case measure => simp [intOf]; omega
              | 5, _, _ =>
                go_wp2_with (first
                  | (go_at_call 27; with_reducible refine (b_nextq q x L L w _ (by first | exact HZC.out | exact HZC.out.below ((Below.refl _ _).alloc (Nat.le_refl _) _))).mono ?_; rintro e WN ⟨rfl, hBN⟩; clear HZC; have HZC := Aside0.mk hBN; clear hBN)
                  | (go_at_call 29; with_reducible refine (b_nextx q x (L.tail) L w _ (by first | exact HZC.out | exact HZC.out.below ((Below.refl _ _).alloc (Nat.le_refl _) _))).mono ?_; rintro e WN ⟨rfl, hBN⟩; clear HZC; have HZC := Aside0.mk hBN; clear hBN)
                  | (go_at_call 26; with_reducible refine (b_lenq q x (L.tail) (L.tail) w _ (by first | exact HZC.out | exact HZC.out.below ((Below.refl _ _).alloc (Nat.le_refl _) _))).mono ?_; rintro e WN ⟨rfl, hBN⟩; clear HZC; have HZC := Aside0.mk hBN; clear hBN)
                  | (go_at_call 32; with_reducible refine (b_lenx q x (L.tail) (L.tail) w _ (by first | exact HZC.out | exact HZC.out.below ((Below.refl _ _).alloc (Nat.le_refl _) _))).mono ?_; rintro e WN ⟨rfl, hBN⟩; clear HZC; have HZC := Aside0.mk hBN; clear hBN))
                go_roundw
                case rel => exact ⟨n + 1, L.tail, by simp, by omega, HZC⟩
                case measure => simp [intOf]; omega
              | 6, _, _ =>
                go_wp2_with (first
                  | (go_at_call 27; with_reducible refine (b_nextq q x L L w _ (by first | exact HZC.out | exact HZC.out.below ((Below.refl _ _).alloc (Nat.le_refl _) _))).mono ?_; rintro e WN ⟨rfl, hBN⟩; clear HZC; have HZC := Aside0.mk hBN; clear hBN)
                  | (go_at_call 29; with_reducible refine (b_nextx q x (L.tail) L w _ (by first | exact HZC.out | exact HZC.out.below ((Below.refl _ _).alloc (Nat.le_refl _) _))).mono ?_; rintro e WN ⟨rfl, hBN⟩; clear HZC; have HZC := Aside0.mk hBN; clear hBN)
                  | (go_at_call 26; with_reducible refine (b_lenq q x (L.tail) (L.tail) w _ (by first | exact HZC.out | exact HZC.out.below ((Below.refl _ _).alloc (Nat.le_refl _) _))).mono ?_; rintro e WN ⟨rfl, hBN⟩; clear HZC; have HZC := Aside0.mk hBN; clear hBN)
                  | (go_at_call 32; with_reducible refine (b_lenx q x (L.tail) (L.tail) w _ (by first | exact HZC.out | exact HZC.out.below ((Below.refl _ _).alloc (Nat.le_refl _) _))).mono ?_; rintro e WN ⟨rfl, hBN⟩; clear HZC; have HZC := Aside0.mk hBN; clear hBN))
                go_roundw
                case rel => exact ⟨n + 1, L.tail, by simp, by omega, HZC⟩
                case measure => simp [intOf]; omega
              | 7, _, _ =>
                go_wp2_with (first
                  | (go_at_call 30; with_reducible refine (b_clearq q x L L w _ (by first | exact HZC.out | exact HZC.out.below ((Below.refl _ _).alloc (Nat.le_refl _) _))).mono ?_; rintro e WN ⟨rfl, hBN⟩; clear HZC; have HZC := Aside0.mk hBN; clear hBN)
                  | (go_at_call 31; with_reducible refine (b_clearx q x ([] : List Int) L w _ (by first | exact HZC.out | exact HZC.out.below ((Below.refl _ _).alloc (Nat.le_refl _) _))).mono ?_; rintro e WN ⟨rfl, hBN⟩; clear HZC; have HZC := Aside0.mk hBN; clear hBN)
                  | (go_at_call 26; with_reducible refine (b_lenq q x (([] : List Int)) (([] : List Int)) w _ (by first | exact HZC.out | exact HZC.out.below ((Below.refl _ _).alloc (Nat.le_refl _) _))).mono ?_; rintro e WN ⟨rfl, hBN⟩; clear HZC; have HZC := Aside0.mk hBN; clear hBN)
                  | (go_at_call 32; with_reducible refine (b_lenx q x (([] : List Int)) (([] : List Int)) w _ (by first | exact HZC.out | exact HZC.out.below ((Below.refl _ _).alloc (Nat.le_refl _) _))).mono ?_; rintro e WN ⟨rfl, hBN⟩; clear HZC; have HZC := Aside0.mk hBN; clear hBN))
                go_roundw
                case rel => exact ⟨n + 1, ([] : List Int), by simp, by omega, HZC⟩
                case measure => simp [intOf]; omega
      · have d2 : decide ((n : Int) < 100) = false := decide_eq_false (by omega)
        go_wp2
        go_ret
        exact ⟨rfl, HZ.out.c⟩
    · have d1 : decide ((n : Int) < (l0.length : Int)) = false := decide_eq_false (by omega)
      go_wp2
      go_ret
      exact ⟨rfl, HZ.out.c⟩
theorem within_q14 (a n : Int) (hn : 0 < n) (hb : n ≤ 4611686018427387904) : plaitinglaw14_within.f a n = some (a % n) := within_eq_q a n hn hb
/-- What QueuePlays answers. -/
def plaitinglaw14_QueuePlays.f (l0 l1 : List Int) : Option Bool := (plaitinglaw14_known.f).bind fun q => if q = true then some true else none
theorem plaitinglaw14_QueuePlays.calls (A0 : Option Addr) (c0 : Nat) (l0 : List Int) (A1 : Option Addr) (c1 : Nat) (l1 : List Int) (r : Bool) (w : World) (hr0 : Kd.C (Kd.int .i64) w A0 l0.length l0) (hc0 : l0.length ≤ c0) (hr1 : Kd.C (Kd.int .i64) w A1 l1.length l1) (hc1 : l1.length ≤ c1) (h : plaitinglaw14_QueuePlays.f l0 l1 = some r) :
    Calls Try.prog 5 #[.slice A0 l0.length c0, .slice A1 l1.length c1] w fun e w' => e = .returned (.bool r) ∧ Below w.heap.size w w' := by
  unfold plaitinglaw14_QueuePlays.f at h
  obtain ⟨q, hq, h⟩ := Option.bind_eq_some_iff.1 h
  by_cases c1_ : q = true
  · subst c1_
    rw [if_pos rfl] at h
    obtain rfl := Option.some.inj h
    refine plays_walk A0 c0 l0 A1 c1 l1 hq (fun a => ?_) (fun a => ?_) (fun a => ⟨_, within_q14 a 256 (by decide) (by decide)⟩) w hr0 hr1
    · have h0 := Int.emod_nonneg a (show (8 : Int) ≠ 0 by decide)
      have h1 := Int.emod_lt_of_pos a (show (0 : Int) < 8 by decide)
      refine ⟨(a % 8).toNat, ?_, by omega⟩
      rw [Int.toNat_of_nonneg h0]
      exact within_q14 a 8 (by decide) (by decide)
    · rw [within_q14 a 2 (by decide) (by decide)]
      have : a % 2 = 0 ∨ a % 2 = 1 := by omega
      rcases this with e | e
      · exact .inl (by rw [e])
      · exact .inr (by rw [e])
  · rw [if_neg c1_] at h
    exact absurd h (by simp)

/-- THE ONE PURE STATEMENT of plaitinglaw14_QueuePlays: yours. -/
def plaitinglaw14_QueuePlays.Pure : Prop := ∀ (l0 : List Int) (l1 : List Int), l0.length ≤ maxLen → l0.length * 8 ≤ 140737488351232 → (∀ x ∈ l0, (Lit.int .i64 x).wf = true) → l1.length ≤ maxLen → l1.length * 8 ≤ 140737488351232 → (∀ x ∈ l1, (Lit.int .i64 x).wf = true) → plaitinglaw14_QueuePlays.f l0 l1 = some true
theorem plaitinglaw14_QueuePlays.walk (P : plaitinglaw14_QueuePlays.Pure) (a0 : Option Addr) (len0 cap0 : Nat) (z0 : List Int) (a1 : Option Addr) (len1 cap1 : Nat) (z1 : List Int) (w : World) (w0 : (a0 = none ∧ len0 = 0 ∧ cap0 = 0 ∧ z0 = []) ∨ ∃ x, a0 = some x ∧ len0 ≤ cap0 ∧ cap0 ≤ maxLen ∧ z0.length = cap0 ∧ (∀ i, i < z0.length → w.cell? (x.add i) = some (.int .i64 (z0.getD i 0))) ∧ ∀ n ∈ z0, (Lit.int .i64 n).wf = true) (y0 : len0 * 8 ≤ 140737488351232) (w1 : (a1 = none ∧ len1 = 0 ∧ cap1 = 0 ∧ z1 = []) ∨ ∃ x, a1 = some x ∧ len1 ≤ cap1 ∧ cap1 ≤ maxLen ∧ z1.length = cap1 ∧ (∀ i, i < z1.length → w.cell? (x.add i) = some (.int .i64 (z1.getD i 0))) ∧ ∀ n ∈ z1, (Lit.int .i64 n).wf = true) (y1 : len1 * 8 ≤ 140737488351232) :
    Calls Try.prog 5 #[.slice a0 len0 cap0, .slice a1 len1 cap1] w fun e w' => e = .returned (.bool true) ∧ Below w.heap.size w w' := by
  obtain ⟨l0, rfl, hr0, hm0, hw0, hc0⟩ := ReadsInt.ofRowC w0
  obtain ⟨l1, rfl, hr1, hm1, hw1, hc1⟩ := ReadsInt.ofRowC w1
  have h := P l0 l1 hm0 y0 hw0 hm1 y1 hw1
  refine (plaitinglaw14_QueuePlays.calls _ _ l0 _ _ l1 true w (Kd.C_of_reads (d := (0 : Int)) (h1 := fun _ => rfl) hr0) hc0 (Kd.C_of_reads (d := (0 : Int)) (h1 := fun _ => rfl) hr1) hc1 h).mono ?_
  rintro e w' ⟨rfl, hd⟩
  exact ⟨rfl, hd⟩

end Go.Proofs.Ytnggjnhfdjjphaa.PQP
