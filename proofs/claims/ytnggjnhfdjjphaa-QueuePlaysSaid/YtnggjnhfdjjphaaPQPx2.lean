-- Written by the session's own program (wip/gen).
import Derived.Test.YtnggjnhfdjjphaaPQPx0
namespace Go.Proofs.Ytnggjnhfdjjphaa.PQP
open Go.RowKit Go.Proofs.YtnggjnhfdjjphaaW.PrintWords Go.Proofs.YtnggjnhfdjjphaaW.PrintLast Go.Proofs.YtnggjnhfdjjphaaW.PrintMore
attribute [local go_sem] max2_int min2_int max_two min_two max_three min_three max_four min_four   -- for this text's walks alone
set_option linter.unusedVariables false
set_option linter.unusedSimpArgs false

theorem run_index_string_at {P : Program} (t : TypeId) (s : ByteArray) (i : Int) (h : P.underlying t = some .string) (h0 : 0 ≤ i) (h1 : i < (s.size : Int)) (W : World) :
    (Instr.index t (.string s) (.int .i64 i)).run P W = .ok (.int .u8 (bt s i)) W := by
  rw [run_index_string W t s .i64 i h]
  have hn : i.toNat < s.size := by omega
  simp [h0, h1, bt, hn]

/-- A state of type 27 at block g of W; what its slices lead to came in by w0. -/
def IsS27 (w0 W : World) (g : Nat) (f0 : Int) (f1 : Int) (f2 : Int) (f3 : Int) (f4 : Int) : Prop := W.heap[g]? = some (.cells #[.int .i64 f0, .int .i64 f1, .int .i64 f2, .int .i64 f3, .int .i64 f4] 27 (0, 0)) ∧ w0.heap.size ≤ g
theorem IsS27.grown {w0 W : World} {g : Nat} {f0 : Int} {f1 : Int} {f2 : Int} {f3 : Int} {f4 : Int} {W1 : World} {row : Option Nat} (h : IsS27 w0 W g f0 f1 f2 f3 f4) (hw : W.grownBy W1 row) (hne : some g ≠ row) : IsS27 w0 W1 g f0 f1 f2 f3 f4 := by
  obtain ⟨hb, hg⟩ := h
  exact ⟨blk_grown hb hw hne, hg⟩
theorem IsS27.own_neN {w0 W : World} {g : Nat} {f0 : Int} {f1 : Int} {f2 : Int} {f3 : Int} {f4 : Int} {α : Type} {d : Kd α} {e : Nat} {base : Nat} {ok : Nat → Prop} {v : Value} {xs : List α} (h : IsS27 w0 W g f0 f1 f2 f3 f4) (ho : Kd.N d e W base ok v xs) (ht : e ≠ 27) : some g ≠ v.ownBlock := by
  obtain ⟨hb, hg⟩ := h
  exact Kd.N_ne ho hb ht
theorem IsS27.fresh {w0 W : World} {g : Nat} {f0 : Int} {f1 : Int} {f2 : Int} {f3 : Int} {f4 : Int} (h : IsS27 w0 W g f0 f1 f2 f3 f4) : ∀ k, W.heap.size ≤ k → k ≠ g := by
  obtain ⟨hb, hg⟩ := h
  exact Kd.freshB hb
theorem IsS27.kept {w0 W : World} {g : Nat} {f0 : Int} {f1 : Int} {f2 : Int} {f3 : Int} {f4 : Int} {W1 : World} {S : Nat → Prop} (h : IsS27 w0 W g f0 f1 f2 f3 f4) (hk : Kept W W1 S) (hne : ¬ S g) : IsS27 w0 W1 g f0 f1 f2 f3 f4 := by
  obtain ⟨hb, hg⟩ := h
  exact ⟨blk_kept hb hk hne, hg⟩
theorem IsS27.below {w0 W : World} {g : Nat} {f0 : Int} {f1 : Int} {f2 : Int} {f3 : Int} {f4 : Int} {W1 : World} (h : IsS27 w0 W g f0 f1 f2 f3 f4) (hw : Below W.heap.size W W1) : IsS27 w0 W1 g f0 f1 f2 f3 f4 := h.grown (grown_of_below hw none) (by simp)
theorem IsS27.alloc {w0 W : World} {g : Nat} {f0 : Int} {f1 : Int} {f2 : Int} {f3 : Int} {f4 : Int} (h : IsS27 w0 W g f0 f1 f2 f3 f4) (o : Obj) : IsS27 w0 (W.alloc o) g f0 f1 f2 f3 f4 := h.below (below_alloc (Below.refl _ _) o)
theorem IsS27.drewN {w0 W : World} {g : Nat} {f0 : Int} {f1 : Int} {f2 : Int} {f3 : Int} {f4 : Int} (h : IsS27 w0 W g f0 f1 f2 f3 f4) (m : Nat) : IsS27 w0 (W.drewN m) g f0 f1 f2 f3 f4 := h
theorem IsS27.drew {w0 W : World} {g : Nat} {f0 : Int} {f1 : Int} {f2 : Int} {f3 : Int} {f4 : Int} (h : IsS27 w0 W g f0 f1 f2 f3 f4) : IsS27 w0 W.drew g f0 f1 f2 f3 f4 := h
theorem IsS27.at_ {w0 W : World} {g : Nat} {f0 : Int} {f1 : Int} {f2 : Int} {f3 : Int} {f4 : Int} {w' : World} {m : Nat} (hq : W.drewN m = w') (h : IsS27 w0 W g f0 f1 f2 f3 f4) : IsS27 w0 w' g f0 f1 f2 f3 f4 := by subst hq; exact IsS27.drewN h m
theorem IsS27.apart {w0 W : World} {g : Nat} {f0 : Int} {f1 : Int} {f2 : Int} {f3 : Int} {f4 : Int} {α : Type} {d : Kd α} {e : Nat} {base : Nat} {ok : Nat → Prop} {v : Value} {xs : List α} (h : IsS27 w0 W g f0 f1 f2 f3 f4) (ho : d.R e W base ok v xs) (ht : ∀ q, q ∈ e :: d.E → q ≠ 27) : d.R e W base (fun k => ok k ∧ k ≠ g) v xs := by
  obtain ⟨hb, hg⟩ := h
  exact Kd.R_types ho hb ht
theorem IsS27.own_ne {w0 W : World} {g : Nat} {f0 : Int} {f1 : Int} {f2 : Int} {f3 : Int} {f4 : Int} {α : Type} {d : Kd α} {e : Nat} {base : Nat} {ok : Nat → Prop} {v : Value} {xs : List α} (h : IsS27 w0 W g f0 f1 f2 f3 f4) (ho : d.R e W base ok v xs) (ht : e ≠ 27) : some g ≠ v.ownBlock := by
  obtain ⟨hb, hg⟩ := h
  exact Kd.R_ne ho hb ht
theorem IsS27.apartQ {w0 W : World} {g : Nat} {f0 : Int} {f1 : Int} {f2 : Int} {f3 : Int} {f4 : Int} {α : Type} {d : Kd α} {e : Nat} {base : Nat} {ok : Nat → Prop} {v : Value} {xs : List α} (h : IsS27 w0 W g f0 f1 f2 f3 f4) (ho : d.Q e W base ok v xs) (ht : ∀ q, q ∈ e :: d.E → q ≠ 27) : d.Q e W base (fun k => ok k ∧ k ≠ g) v xs := by
  obtain ⟨hb, hg⟩ := h
  exact Kd.Q_types ho hb ht
theorem IsS27.own_neQ {w0 W : World} {g : Nat} {f0 : Int} {f1 : Int} {f2 : Int} {f3 : Int} {f4 : Int} {α : Type} {d : Kd α} {e : Nat} {base : Nat} {ok : Nat → Prop} {v : Value} {xs : List α} (h : IsS27 w0 W g f0 f1 f2 f3 f4) (ho : d.Q e W base ok v xs) (ht : e ≠ 27) : some g ≠ v.ownBlock := by
  obtain ⟨hb, hg⟩ := h
  exact Kd.Q_ne ho hb ht
theorem IsS27.apartS {w0 W : World} {g : Nat} {f0 : Int} {f1 : Int} {f2 : Int} {f3 : Int} {f4 : Int} {α : Type} {d : Kd α} {e : Nat} {base : Nat} {ok : Nat → Prop} {v : Value} {xs : List α} (h : IsS27 w0 W g f0 f1 f2 f3 f4) (ho : d.S e W base ok v xs) (ht : ∀ q, q ∈ e :: d.E → q ≠ 27) : d.S e W base (fun k => ok k ∧ k ≠ g) v xs := by
  obtain ⟨hb, hg⟩ := h
  exact Kd.S_types ho hb ht
theorem IsS27.own_neS {w0 W : World} {g : Nat} {f0 : Int} {f1 : Int} {f2 : Int} {f3 : Int} {f4 : Int} {α : Type} {d : Kd α} {e : Nat} {base : Nat} {ok : Nat → Prop} {v : Value} {xs : List α} (h : IsS27 w0 W g f0 f1 f2 f3 f4) (ho : d.S e W base ok v xs) (ht : e ≠ 27) : some g ≠ v.ownBlock := by
  obtain ⟨hb, hg⟩ := h
  exact Kd.S_ne ho hb ht
theorem IsS27.lt {w0 W : World} {g : Nat} {f0 : Int} {f1 : Int} {f2 : Int} {f3 : Int} {f4 : Int} (h : IsS27 w0 W g f0 f1 f2 f3 f4) : g < W.heap.size := by
  obtain ⟨hb, hg⟩ := h
  exact blk_lt hb
theorem IsS27.ge {w0 W : World} {g : Nat} {f0 : Int} {f1 : Int} {f2 : Int} {f3 : Int} {f4 : Int} (h : IsS27 w0 W g f0 f1 f2 f3 f4) : w0.heap.size ≤ g := by
  obtain ⟨hb, hg⟩ := h
  exact hg
theorem IsS27.ne_blk {w0 W : World} {g : Nat} {f0 : Int} {f1 : Int} {f2 : Int} {f3 : Int} {f4 : Int} {a : Nat} {cs : Array Value} {t : TypeId} {fr : Nat × Nat} (h : IsS27 w0 W g f0 f1 f2 f3 f4) (hb2 : W.heap[a]? = some (.cells cs t fr)) (ht : t ≠ 27) : g ≠ a := by
  obtain ⟨hb, hg⟩ := h
  rintro rfl
  rw [hb] at hb2
  injection hb2 with hb2
  injection hb2 with _ ht2
  exact ht ht2.symm
theorem IsS27.far {w0 W : World} {g : Nat} {f0 : Int} {f1 : Int} {f2 : Int} {f3 : Int} {f4 : Int} {p : Addr} (h : IsS27 w0 W g f0 f1 f2 f3 f4) (hne : g ≠ p.block) (u : Value) : IsS27 w0 (W.setCell p u) g f0 f1 f2 f3 f4 := by
  obtain ⟨hb, hg⟩ := h
  exact ⟨blk_far hb hne u, hg⟩
theorem cellS27_0 {W : World} {g : Nat} {f0 : Int} {f1 : Int} {f2 : Int} {f3 : Int} {f4 : Int} (h : W.heap[g]? = some (.cells #[.int .i64 f0, .int .i64 f1, .int .i64 f2, .int .i64 f3, .int .i64 f4] 27 (0, 0))) : W.cell? ⟨g, 0, none⟩ = some (.int .i64 f0) := (blk_cell h 0).trans rfl
theorem IsS27.set_0 {w0 W : World} {g : Nat} {f0 : Int} {f1 : Int} {f2 : Int} {f3 : Int} {f4 : Int} (h : IsS27 w0 W g f0 f1 f2 f3 f4) (x : Int) : IsS27 w0 (W.setCell ⟨g, 0, none⟩ (.int .i64 x)) g x f1 f2 f3 f4 := by
  obtain ⟨hb, hg⟩ := h
  exact ⟨by simpa using blk_set hb 0 (.int .i64 x), hg⟩
theorem cellS27_1 {W : World} {g : Nat} {f0 : Int} {f1 : Int} {f2 : Int} {f3 : Int} {f4 : Int} (h : W.heap[g]? = some (.cells #[.int .i64 f0, .int .i64 f1, .int .i64 f2, .int .i64 f3, .int .i64 f4] 27 (0, 0))) : W.cell? ⟨g, 1, none⟩ = some (.int .i64 f1) := (blk_cell h 1).trans rfl
theorem IsS27.set_1 {w0 W : World} {g : Nat} {f0 : Int} {f1 : Int} {f2 : Int} {f3 : Int} {f4 : Int} (h : IsS27 w0 W g f0 f1 f2 f3 f4) (x : Int) : IsS27 w0 (W.setCell ⟨g, 1, none⟩ (.int .i64 x)) g f0 x f2 f3 f4 := by
  obtain ⟨hb, hg⟩ := h
  exact ⟨by simpa using blk_set hb 1 (.int .i64 x), hg⟩
theorem cellS27_2 {W : World} {g : Nat} {f0 : Int} {f1 : Int} {f2 : Int} {f3 : Int} {f4 : Int} (h : W.heap[g]? = some (.cells #[.int .i64 f0, .int .i64 f1, .int .i64 f2, .int .i64 f3, .int .i64 f4] 27 (0, 0))) : W.cell? ⟨g, 2, none⟩ = some (.int .i64 f2) := (blk_cell h 2).trans rfl
theorem IsS27.set_2 {w0 W : World} {g : Nat} {f0 : Int} {f1 : Int} {f2 : Int} {f3 : Int} {f4 : Int} (h : IsS27 w0 W g f0 f1 f2 f3 f4) (x : Int) : IsS27 w0 (W.setCell ⟨g, 2, none⟩ (.int .i64 x)) g f0 f1 x f3 f4 := by
  obtain ⟨hb, hg⟩ := h
  exact ⟨by simpa using blk_set hb 2 (.int .i64 x), hg⟩
theorem cellS27_3 {W : World} {g : Nat} {f0 : Int} {f1 : Int} {f2 : Int} {f3 : Int} {f4 : Int} (h : W.heap[g]? = some (.cells #[.int .i64 f0, .int .i64 f1, .int .i64 f2, .int .i64 f3, .int .i64 f4] 27 (0, 0))) : W.cell? ⟨g, 3, none⟩ = some (.int .i64 f3) := (blk_cell h 3).trans rfl
theorem IsS27.set_3 {w0 W : World} {g : Nat} {f0 : Int} {f1 : Int} {f2 : Int} {f3 : Int} {f4 : Int} (h : IsS27 w0 W g f0 f1 f2 f3 f4) (x : Int) : IsS27 w0 (W.setCell ⟨g, 3, none⟩ (.int .i64 x)) g f0 f1 f2 x f4 := by
  obtain ⟨hb, hg⟩ := h
  exact ⟨by simpa using blk_set hb 3 (.int .i64 x), hg⟩
theorem cellS27_4 {W : World} {g : Nat} {f0 : Int} {f1 : Int} {f2 : Int} {f3 : Int} {f4 : Int} (h : W.heap[g]? = some (.cells #[.int .i64 f0, .int .i64 f1, .int .i64 f2, .int .i64 f3, .int .i64 f4] 27 (0, 0))) : W.cell? ⟨g, 4, none⟩ = some (.int .i64 f4) := (blk_cell h 4).trans rfl
theorem IsS27.set_4 {w0 W : World} {g : Nat} {f0 : Int} {f1 : Int} {f2 : Int} {f3 : Int} {f4 : Int} (h : IsS27 w0 W g f0 f1 f2 f3 f4) (x : Int) : IsS27 w0 (W.setCell ⟨g, 4, none⟩ (.int .i64 x)) g f0 f1 f2 f3 x := by
  obtain ⟨hb, hg⟩ := h
  exact ⟨by simpa using blk_set hb 4 (.int .i64 x), hg⟩
theorem IsS27.new (w0 W : World) (f0 : Int) (f1 : Int) (f2 : Int) (f3 : Int) (f4 : Int) (hB : Below w0.heap.size w0 W) : IsS27 w0 (W.alloc (.cells #[.int .i64 f0, .int .i64 f1, .int .i64 f2, .int .i64 f3, .int .i64 f4] 27)) W.heap.size f0 f1 f2 f3 f4 := ⟨by simpa using heap_alloc_new W _, hB.size⟩

/-! ### queue_Queue_Send: function 24 (by hand) -/
theorem queue_send_at0 (g : Nat) (f0 f1 f2 f3 v : Int) (w0 w : World) (hI : IsS27 w0 w g f0 f1 f2 f3 0) (hB : Below w0.heap.size w0 w) (hv0 : 0 ≤ v) (hv1 : v ≤ 255) :
    Calls Try.prog 24 #[.pointer (some ⟨g, 0, none⟩), .int .i64 v] w fun e w' => e = .returned (.int .i64 0) ∧ IsS27 w0 w' g v f1 f2 f3 1 ∧ Below w0.heap.size w0 w' ∧ KeepBut w w' g none := by
  have b1 : decide (v < 0) = false := by simp; omega
  have b2 : decide (255 < v) = false := by simp; omega
  obtain ⟨HG, hg⟩ := hI
  have c0 := cellS27_0 HG
  have c4 := cellS27_4 HG
  have z0 := blk_frozen HG 0
  have z4 := blk_frozen HG 4
  have HI := Aside0.mk (show IsS27 w0 w g f0 f1 f2 f3 0 from ⟨HG, hg⟩)
  have HB := Aside0.mk hB
  have HH := Aside0.mk hg
  clear HG hB hg
  go_enter Try.func24, Try.ntmps24
  go_wp2
  go_region
  go_wp2
  go_ret
  exact ⟨rfl, (HI.out.set_0 v).drew.set_4 1, below_drew ((HB.out.setCell HH.out _).setCell HH.out _), ((KeepBut.refl w g none).set_ 0 _).set_ 4 _⟩
theorem queue_send_at1 (g : Nat) (f0 f1 f2 f3 v : Int) (w0 w : World) (hI : IsS27 w0 w g f0 f1 f2 f3 1) (hB : Below w0.heap.size w0 w) (hv0 : 0 ≤ v) (hv1 : v ≤ 255) :
    Calls Try.prog 24 #[.pointer (some ⟨g, 0, none⟩), .int .i64 v] w fun e w' => e = .returned (.int .i64 0) ∧ IsS27 w0 w' g f0 v f2 f3 2 ∧ Below w0.heap.size w0 w' ∧ KeepBut w w' g none := by
  have b1 : decide (v < 0) = false := by simp; omega
  have b2 : decide (255 < v) = false := by simp; omega
  obtain ⟨HG, hg⟩ := hI
  have c0 := cellS27_1 HG
  have c4 := cellS27_4 HG
  have z0 := blk_frozen HG 1
  have z4 := blk_frozen HG 4
  have HI := Aside0.mk (show IsS27 w0 w g f0 f1 f2 f3 1 from ⟨HG, hg⟩)
  have HB := Aside0.mk hB
  have HH := Aside0.mk hg
  clear HG hB hg
  go_enter Try.func24, Try.ntmps24
  go_wp2
  go_region
  go_wp2
  go_ret
  exact ⟨rfl, (HI.out.set_1 v).drew.set_4 2, below_drew ((HB.out.setCell HH.out _).setCell HH.out _), ((KeepBut.refl w g none).set_ 1 _).set_ 4 _⟩
theorem queue_send_at2 (g : Nat) (f0 f1 f2 f3 v : Int) (w0 w : World) (hI : IsS27 w0 w g f0 f1 f2 f3 2) (hB : Below w0.heap.size w0 w) (hv0 : 0 ≤ v) (hv1 : v ≤ 255) :
    Calls Try.prog 24 #[.pointer (some ⟨g, 0, none⟩), .int .i64 v] w fun e w' => e = .returned (.int .i64 0) ∧ IsS27 w0 w' g f0 f1 v f3 3 ∧ Below w0.heap.size w0 w' ∧ KeepBut w w' g none := by
  have b1 : decide (v < 0) = false := by simp; omega
  have b2 : decide (255 < v) = false := by simp; omega
  obtain ⟨HG, hg⟩ := hI
  have c0 := cellS27_2 HG
  have c4 := cellS27_4 HG
  have z0 := blk_frozen HG 2
  have z4 := blk_frozen HG 4
  have HI := Aside0.mk (show IsS27 w0 w g f0 f1 f2 f3 2 from ⟨HG, hg⟩)
  have HB := Aside0.mk hB
  have HH := Aside0.mk hg
  clear HG hB hg
  go_enter Try.func24, Try.ntmps24
  go_wp2
  go_region
  go_wp2
  go_ret
  exact ⟨rfl, (HI.out.set_2 v).drew.set_4 3, below_drew ((HB.out.setCell HH.out _).setCell HH.out _), ((KeepBut.refl w g none).set_ 2 _).set_ 4 _⟩
theorem queue_send_at3 (g : Nat) (f0 f1 f2 f3 v : Int) (w0 w : World) (hI : IsS27 w0 w g f0 f1 f2 f3 3) (hB : Below w0.heap.size w0 w) (hv0 : 0 ≤ v) (hv1 : v ≤ 255) :
    Calls Try.prog 24 #[.pointer (some ⟨g, 0, none⟩), .int .i64 v] w fun e w' => e = .returned (.int .i64 0) ∧ IsS27 w0 w' g f0 f1 f2 v 4 ∧ Below w0.heap.size w0 w' ∧ KeepBut w w' g none := by
  have b1 : decide (v < 0) = false := by simp; omega
  have b2 : decide (255 < v) = false := by simp; omega
  obtain ⟨HG, hg⟩ := hI
  have c0 := cellS27_3 HG
  have c4 := cellS27_4 HG
  have z0 := blk_frozen HG 3
  have z4 := blk_frozen HG 4
  have HI := Aside0.mk (show IsS27 w0 w g f0 f1 f2 f3 3 from ⟨HG, hg⟩)
  have HB := Aside0.mk hB
  have HH := Aside0.mk hg
  clear HG hB hg
  go_enter Try.func24, Try.ntmps24
  go_wp2
  go_region
  go_wp2
  go_ret
  exact ⟨rfl, (HI.out.set_3 v).drew.set_4 4, below_drew ((HB.out.setCell HH.out _).setCell HH.out _), ((KeepBut.refl w g none).set_ 3 _).set_ 4 _⟩
theorem queue_send_full (g : Nat) (f0 f1 f2 f3 v : Int) (w0 w : World) (hI : IsS27 w0 w g f0 f1 f2 f3 4) (hB : Below w0.heap.size w0 w) (hv0 : 0 ≤ v) (hv1 : v ≤ 255) :
    Calls Try.prog 24 #[.pointer (some ⟨g, 0, none⟩), .int .i64 v] w fun e w' => e = .returned (.int .i64 8) ∧ IsS27 w0 w' g f0 f1 f2 f3 4 ∧ Below w0.heap.size w0 w' ∧ KeepBut w w' g none := by
  have b1 : decide (v < 0) = false := by simp; omega
  have b2 : decide (255 < v) = false := by simp; omega
  obtain ⟨HG, hg⟩ := hI
  have c4 := cellS27_4 HG
  have HI := Aside0.mk (show IsS27 w0 w g f0 f1 f2 f3 4 from ⟨HG, hg⟩)
  have HB := Aside0.mk hB
  clear HG hB hg
  go_enter Try.func24, Try.ntmps24
  go_wp2
  go_ret
  exact ⟨rfl, HI.out, HB.out, KeepBut.refl w g none⟩
theorem queue_send_low (g : Nat) (f0 f1 f2 f3 f4 v : Int) (w0 w : World) (hI : IsS27 w0 w g f0 f1 f2 f3 f4) (hB : Below w0.heap.size w0 w) (hv : v < 0) :
    Calls Try.prog 24 #[.pointer (some ⟨g, 0, none⟩), .int .i64 v] w fun e w' => e = .returned (.int .i64 1) ∧ IsS27 w0 w' g f0 f1 f2 f3 f4 ∧ Below w0.heap.size w0 w' ∧ KeepBut w w' g none := by
  have b1 : decide (v < 0) = true := by simp; omega
  have HI := Aside0.mk hI
  have HB := Aside0.mk hB
  clear hI hB hv
  go_enter Try.func24, Try.ntmps24
  go_wp2
  go_ret
  exact ⟨rfl, HI.out, HB.out, KeepBut.refl w g none⟩
theorem queue_send_high (g : Nat) (f0 f1 f2 f3 f4 v : Int) (w0 w : World) (hI : IsS27 w0 w g f0 f1 f2 f3 f4) (hB : Below w0.heap.size w0 w) (hv : 255 < v) :
    Calls Try.prog 24 #[.pointer (some ⟨g, 0, none⟩), .int .i64 v] w fun e w' => e = .returned (.int .i64 1) ∧ IsS27 w0 w' g f0 f1 f2 f3 f4 ∧ Below w0.heap.size w0 w' ∧ KeepBut w w' g none := by
  have b1 : decide (v < 0) = false := by simp; omega
  have b2 : decide (255 < v) = true := by simp; omega
  have HI := Aside0.mk hI
  have HB := Aside0.mk hB
  clear hI hB hv
  go_enter Try.func24, Try.ntmps24
  go_wp2
  go_ret
  exact ⟨rfl, HI.out, HB.out, KeepBut.refl w g none⟩
/-- What Send answers, and what the queue holds behind it. -/
def queue_Queue_Send.f (f0 f1 f2 f3 n v : Int) : Option (Int × Int × Int × Int × Int × Int) :=
  if v < 0 ∨ 255 < v then some (1, f0, f1, f2, f3, n) else if n = 4 then some (8, f0, f1, f2, f3, n) else if n = 0 then some (0, v, f1, f2, f3, 1) else if n = 1 then some (0, f0, v, f2, f3, 2)
  else if n = 2 then some (0, f0, f1, v, f3, 3) else if n = 3 then some (0, f0, f1, f2, v, 4) else none
theorem queue_Queue_Send.calls (g : Nat) (s0_0 : Int) (s0_1 : Int) (s0_2 : Int) (s0_3 : Int) (s0_4 : Int) (a1 : Int) (r1 : Int) (r2 : Int) (r3 : Int) (r4 : Int) (r5 : Int) (r6 : Int) (w0 w : World) (hI : IsS27 w0 w g s0_0 s0_1 s0_2 s0_3 s0_4) (hB : Below w0.heap.size w0 w) (h : queue_Queue_Send.f s0_0 s0_1 s0_2 s0_3 s0_4 a1 = some (r1, r2, r3, r4, r5, r6)) :
    Calls Try.prog 24 #[.pointer (some ⟨g, 0, none⟩), .int .i64 a1] w fun e w' => e = .returned (.int .i64 r1) ∧ IsS27 w0 w' g r2 r3 r4 r5 r6 ∧ Below w0.heap.size w0 w' ∧ KeepBut w w' g none := by
  unfold queue_Queue_Send.f at h
  by_cases hv : a1 < 0 ∨ 255 < a1
  · rw [if_pos hv] at h
    simp only [Option.some.injEq, Prod.mk.injEq] at h
    obtain ⟨rfl, rfl, rfl, rfl, rfl, rfl⟩ := h
    rcases hv with hv | hv
    · exact queue_send_low g _ _ _ _ _ a1 w0 w hI hB hv
    · exact queue_send_high g _ _ _ _ _ a1 w0 w hI hB hv
  · rw [if_neg hv] at h
    by_cases h4 : s0_4 = 4
    · rw [if_pos h4] at h
      subst h4
      simp only [Option.some.injEq, Prod.mk.injEq] at h
      obtain ⟨rfl, rfl, rfl, rfl, rfl, rfl⟩ := h
      exact queue_send_full g _ _ _ _ a1 w0 w hI hB (by omega) (by omega)
    · rw [if_neg h4] at h
      by_cases h0 : s0_4 = 0
      · rw [if_pos h0] at h
        subst h0
        simp only [Option.some.injEq, Prod.mk.injEq] at h
        obtain ⟨rfl, rfl, rfl, rfl, rfl, rfl⟩ := h
        exact queue_send_at0 g _ _ _ _ _ w0 w hI hB (by omega) (by omega)
      · rw [if_neg h0] at h
        by_cases h1 : s0_4 = 1
        · rw [if_pos h1] at h
          subst h1
          simp only [Option.some.injEq, Prod.mk.injEq] at h
          obtain ⟨rfl, rfl, rfl, rfl, rfl, rfl⟩ := h
          exact queue_send_at1 g _ _ _ _ _ w0 w hI hB (by omega) (by omega)
        · rw [if_neg h1] at h
          by_cases h2 : s0_4 = 2
          · rw [if_pos h2] at h
            subst h2
            simp only [Option.some.injEq, Prod.mk.injEq] at h
            obtain ⟨rfl, rfl, rfl, rfl, rfl, rfl⟩ := h
            exact queue_send_at2 g _ _ _ _ _ w0 w hI hB (by omega) (by omega)
          · rw [if_neg h2] at h
            by_cases h3 : s0_4 = 3
            · rw [if_pos h3] at h
              subst h3
              simp only [Option.some.injEq, Prod.mk.injEq] at h
              obtain ⟨rfl, rfl, rfl, rfl, rfl, rfl⟩ := h
              exact queue_send_at3 g _ _ _ _ _ w0 w hI hB (by omega) (by omega)
            · rw [if_neg h3] at h
              exact absurd h (by simp)

end Go.Proofs.Ytnggjnhfdjjphaa.PQP
