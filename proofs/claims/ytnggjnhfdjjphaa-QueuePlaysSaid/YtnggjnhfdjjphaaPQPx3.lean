-- Written by the session's own program (wip/gen).
import Derived.Test.YtnggjnhfdjjphaaPQPx0
import Derived.Test.YtnggjnhfdjjphaaPQPx2
namespace Go.Proofs.Ytnggjnhfdjjphaa.PQP
open Go.RowKit Go.Proofs.YtnggjnhfdjjphaaW.PrintWords Go.Proofs.YtnggjnhfdjjphaaW.PrintLast Go.Proofs.YtnggjnhfdjjphaaW.PrintMore
attribute [local go_sem] max2_int min2_int max_two min_two max_three min_three max_four min_four   -- for this text's walks alone
set_option linter.unusedVariables false
set_option linter.unusedSimpArgs false

/-! ### queue_Queue_Len: function 26 -/
def queue_Queue_Len.f (s0_0 : Int) (s0_1 : Int) (s0_2 : Int) (s0_3 : Int) (s0_4 : Int) : Option (Int × Int × Int × Int × Int × Int) := some (s0_4, s0_0, s0_1, s0_2, s0_3, s0_4)
set_option maxHeartbeats 8000000 in
set_option maxRecDepth 100000 in
theorem queue_Queue_Len.calls (g : Nat) (s0_0 : Int) (s0_1 : Int) (s0_2 : Int) (s0_3 : Int) (s0_4 : Int) (r1 : Int) (r2 : Int) (r3 : Int) (r4 : Int) (r5 : Int) (r6 : Int) (w0 w : World) (hI : IsS27 w0 w g s0_0 s0_1 s0_2 s0_3 s0_4) (hB : Below w0.heap.size w0 w) (h : queue_Queue_Len.f s0_0 s0_1 s0_2 s0_3 s0_4 = some (r1, r2, r3, r4, r5, r6)) :
    Calls Try.prog 26 #[.pointer (some ⟨g, 0, none⟩)] w fun e w' => e = .returned (.int .i64 r1) ∧ IsS27 w0 w' g r2 r3 r4 r5 r6 ∧ Below w0.heap.size w0 w' ∧ KeepBut w w' g none := by
  have HI0 := Aside0.mk hI
  have HK := Aside0.mk (KeepBut.refl w g none)
  have HL := Aside0.mk hB.size
  clear hI
  have HW0 := Aside0.mk hB.size
  have HB := Aside0.mk hB
  clear hB
  have H : (some (s0_4, s0_0, s0_1, s0_2, s0_3, s0_4)) = some (r1, r2, r3, r4, r5, r6) := h
  clear h
  simp only [Option.some.injEq, Prod.mk.injEq] at H
  obtain ⟨rfl, rfl, rfl, rfl, rfl, rfl⟩ := H
  obtain ⟨HGz2, hgz2⟩ := HI0.out
  have hcz2_0 := cellS27_0 HGz2
  have hcz2_1 := cellS27_1 HGz2
  have hcz2_2 := cellS27_2 HGz2
  have hcz2_3 := cellS27_3 HGz2
  have hcz2_4 := cellS27_4 HGz2
  have hfz2_0 := blk_frozen HGz2 0
  have hfz2_1 := blk_frozen HGz2 1
  have hfz2_2 := blk_frozen HGz2 2
  have hfz2_3 := blk_frozen HGz2 3
  have hfz2_4 := blk_frozen HGz2 4
  clear HGz2 hgz2
  go_enter Try.func26, Try.ntmps26
  go_wp2
  go_ret
  exact ⟨by first | rfl | (simp [errW_none, errW_some] <;> rfl) | (simp [*, errW_none, errW_some] <;> rfl), by repeat (first | (with_reducible first | exact HI0.out | apply IsS27.alloc | apply IsS27.drewN | apply IsS27.drew | apply IsS27.set_0 | apply IsS27.set_1 | apply IsS27.set_2 | apply IsS27.set_3 | apply IsS27.set_4) | exact HI0.out), by repeat (first | (with_reducible first | exact HB.out | apply below_alloc | apply pw_below_drewN | apply below_drew1 | refine below_set ?_ (IsS27.ge HI0.out)) | exact HB.out), by repeat (first | (with_reducible first | exact HK.out | apply KeepBut.set_ | apply keep_drewN | apply keep_drew | apply keep_alloc) | exact HK.out)⟩

/-! ### queue_Queue_Next: function 27 (by hand) -/
theorem addr_add_at (g o j : Nat) : (⟨g, o, none⟩ : Addr).add j = ⟨g, o + j, none⟩ := by unfold Addr.add; split <;> simp_all
theorem setCells_drew (g : Nat) : ∀ (vs : List Value) (o : Nat) (W : World), W.drew.setCells g o vs = (W.setCells g o vs).drew
  | [], _, _ => rfl
  | v :: r, o, W => by
    rw [World.setCells, World.setCells, World.setCell_drew]
    exact setCells_drew g r (o + 1) _
theorem copy_in_array (P : Program) (W : World) (T E ty : TypeId) (hu : P.underlying T = some (.slice E)) (hs : (P.info? E).map (·.size) = some 1) (g m : Nat) (cs : List Int) (hl : cs.length = m) (hm : m ≤ 4) (sc : Nat)
    (hsrc : ∀ j, j < m → W.cell? ⟨g, 1 + j, none⟩ = some (.int .i64 (cs.getD j 0))) (hc : ∀ j, j < m → (W.cell? ⟨g, j, none⟩).isSome = true) (hf : ∀ j, j < m → W.frozen? ⟨g, j, none⟩ = false) :
    (Builtin.copy_ #[T, T] ty #[.slice (some ⟨g, 0, none⟩) 4 4, .slice (some ⟨g, 1, none⟩) m sc]).run P W.drew = .ok (goInt m) (W.setCells g 0 (cs.map (Value.int .i64))).drew := by
  have h := run_copy_cells (P := P) W.drew T T ty E g 0 4 4 ⟨g, 1, none⟩ m sc (cs.map (Value.int .i64)) hu hs (by rw [List.length_map, hl]; exact (Nat.min_eq_left hm).symm) (by
      intro j v hj
      have hjl : j < cs.length := by
        refine Nat.lt_of_not_le fun hle => ?_
        rw [List.getElem?_eq_none (by rw [List.length_map]; exact hle)] at hj
        cases hj
      rw [List.getElem?_map, List.getElem?_eq_getElem hjl] at hj
      have hv : Value.int .i64 cs[j] = v := by simpa using hj
      rw [addr_add_at, ← hv]
      have := hsrc j (by omega)
      rw [List.getD_eq_getElem?_getD, List.getElem?_eq_getElem hjl] at this
      exact this)
    (by intro j hj; rw [List.length_map, hl] at hj; rw [Nat.zero_add]; exact hc j hj) (by intro j hj; rw [List.length_map, hl] at hj; rw [Nat.zero_add]; exact hf j hj)
    (by intro v hv; obtain ⟨x, _, rfl⟩ := List.mem_map.1 hv; rfl)
  rw [List.length_map, hl] at h
  rw [h, setCells_drew]
theorem keepBut_alloc {w W : World} {g : Nat} (h : KeepBut w W g none) (o : Obj) : KeepBut w (W.alloc o) g none :=
  h.trans (KeepBut.of_below (below_alloc (Below.refl W.heap.size W) o) g none) (.inl rfl)
theorem queue_next_at0 (g : Nat) (f0 f1 f2 f3 : Int) (w0 w : World) (hI : IsS27 w0 w g f0 f1 f2 f3 0) (hB : Below w0.heap.size w0 w) :
    Calls Try.prog 27 #[.pointer (some ⟨g, 0, none⟩)] w fun e w' => e = .returned (.agg #[.int .i64 1, .int .i64 0]) ∧ IsS27 w0 w' g f0 f1 f2 f3 0 ∧ Below w0.heap.size w0 w' ∧ KeepBut w w' g none := by
  obtain ⟨HG, hg⟩ := hI
  have c4 := cellS27_4 HG
  have hlt : g < w.heap.size := blk_lt HG
  have HI := Aside0.mk (show IsS27 w0 w g f0 f1 f2 f3 0 from ⟨HG, hg⟩)
  have HB := Aside0.mk hB
  clear HG hB hg
  go_enter Try.func27, Try.ntmps27
  go_wp2
  exact bodyPost_ret (v := .agg #[.int .i64 1, .int .i64 0]) (by simp [results, Try.results27, go_sem]) rfl ⟨rfl, HI.out.alloc _, HB.out.alloc HB.out.size _, KeepBut.of_below (below_alloc (Below.refl _ _) _) g none⟩
theorem queue_next_at1 (g : Nat) (f0 f1 f2 f3 : Int) (w0 w : World) (hI : IsS27 w0 w g f0 f1 f2 f3 1) (hB : Below w0.heap.size w0 w) :
    Calls Try.prog 27 #[.pointer (some ⟨g, 0, none⟩)] w fun e w' => e = .returned (.agg #[.int .i64 2, .int .i64 f0]) ∧ IsS27 w0 w' g f0 f1 f2 f3 0 ∧ Below w0.heap.size w0 w' ∧ KeepBut w w' g none := by
  obtain ⟨HG, hg⟩ := hI
  have c0 := cellS27_0 HG
  have z0 := blk_frozen HG 0
  have c1 := cellS27_1 HG
  have z1 := blk_frozen HG 1
  have c2 := cellS27_2 HG
  have z2 := blk_frozen HG 2
  have c3 := cellS27_3 HG
  have z3 := blk_frozen HG 3
  have c4 := cellS27_4 HG
  have z4 := blk_frozen HG 4
  have hlt : g < w.heap.size := blk_lt HG
  have HA := (show IsS27 w0 w g f0 f1 f2 f3 1 from ⟨HG, hg⟩).alloc (.cells #[.int .i64 0, .int .i64 0] 33)
  have hcp := copy_in_array Try.prog (w.alloc (.cells #[.int .i64 0, .int .i64 0] 33)) 22 3 3 Try.underlying22 (by kernel_rfl) g 0 [] rfl (by decide) 3
    (fun j hj => absurd hj (Nat.not_lt_zero j))
    (fun j hj => absurd hj (Nat.not_lt_zero j))
    (fun j hj => absurd hj (Nat.not_lt_zero j))
  simp only [List.map, World.setCells] at hcp
  have HI := Aside0.mk (show IsS27 w0 w g f0 f1 f2 f3 1 from ⟨HG, hg⟩)
  have HB := Aside0.mk hB
  have HH := Aside0.mk hg
  clear HG hB hg HA
  go_enter Try.func27, Try.ntmps27
  go_wp2
  go_region
  go_wp2
  exact bodyPost_ret (v := .agg #[.int .i64 2, .int .i64 f0]) (by simp [results, Try.results27, go_sem]) rfl ⟨rfl, ((HI.out.set_4 0).alloc _).drew, below_drew ((HB.out.setCell HH.out _).alloc (by simp; exact HB.out.size) _), keepBut_alloc ((KeepBut.refl w g none).set_ 4 _) _⟩
theorem queue_next_at2 (g : Nat) (f0 f1 f2 f3 : Int) (w0 w : World) (hI : IsS27 w0 w g f0 f1 f2 f3 2) (hB : Below w0.heap.size w0 w) :
    Calls Try.prog 27 #[.pointer (some ⟨g, 0, none⟩)] w fun e w' => e = .returned (.agg #[.int .i64 2, .int .i64 f0]) ∧ IsS27 w0 w' g f1 f1 f2 f3 1 ∧ Below w0.heap.size w0 w' ∧ KeepBut w w' g none := by
  obtain ⟨HG, hg⟩ := hI
  have c0 := cellS27_0 HG
  have z0 := blk_frozen HG 0
  have c1 := cellS27_1 HG
  have z1 := blk_frozen HG 1
  have c2 := cellS27_2 HG
  have z2 := blk_frozen HG 2
  have c3 := cellS27_3 HG
  have z3 := blk_frozen HG 3
  have c4 := cellS27_4 HG
  have z4 := blk_frozen HG 4
  have hlt : g < w.heap.size := blk_lt HG
  have HA := (show IsS27 w0 w g f0 f1 f2 f3 2 from ⟨HG, hg⟩).alloc (.cells #[.int .i64 0, .int .i64 0] 33)
  have hcp := copy_in_array Try.prog (w.alloc (.cells #[.int .i64 0, .int .i64 0] 33)) 22 3 3 Try.underlying22 (by kernel_rfl) g 1 [f1] rfl (by decide) 3
    (fun j hj => match j, hj with | 0, _ => cellS27_1 HA.1)
    (fun j hj => match j, hj with | 0, _ => by rw [cellS27_0 HA.1]; rfl)
    (fun j hj => match j, hj with | 0, _ => blk_frozen HA.1 0)
  simp only [List.map, World.setCells] at hcp
  have HI := Aside0.mk (show IsS27 w0 w g f0 f1 f2 f3 2 from ⟨HG, hg⟩)
  have HB := Aside0.mk hB
  have HH := Aside0.mk hg
  clear HG hB hg HA
  go_enter Try.func27, Try.ntmps27
  go_wp2
  go_region
  go_wp2
  exact bodyPost_ret (v := .agg #[.int .i64 2, .int .i64 f0]) (by simp [results, Try.results27, go_sem]) rfl ⟨rfl, (((HI.out.set_0 f1).set_4 1).alloc _).drew, below_drew (((HB.out.setCell HH.out _).setCell HH.out _).alloc (by simp; exact HB.out.size) _), keepBut_alloc (((KeepBut.refl w g none).set_ 0 _).set_ 4 _) _⟩
theorem queue_next_at3 (g : Nat) (f0 f1 f2 f3 : Int) (w0 w : World) (hI : IsS27 w0 w g f0 f1 f2 f3 3) (hB : Below w0.heap.size w0 w) :
    Calls Try.prog 27 #[.pointer (some ⟨g, 0, none⟩)] w fun e w' => e = .returned (.agg #[.int .i64 2, .int .i64 f0]) ∧ IsS27 w0 w' g f1 f2 f2 f3 2 ∧ Below w0.heap.size w0 w' ∧ KeepBut w w' g none := by
  obtain ⟨HG, hg⟩ := hI
  have c0 := cellS27_0 HG
  have z0 := blk_frozen HG 0
  have c1 := cellS27_1 HG
  have z1 := blk_frozen HG 1
  have c2 := cellS27_2 HG
  have z2 := blk_frozen HG 2
  have c3 := cellS27_3 HG
  have z3 := blk_frozen HG 3
  have c4 := cellS27_4 HG
  have z4 := blk_frozen HG 4
  have hlt : g < w.heap.size := blk_lt HG
  have HA := (show IsS27 w0 w g f0 f1 f2 f3 3 from ⟨HG, hg⟩).alloc (.cells #[.int .i64 0, .int .i64 0] 33)
  have hcp := copy_in_array Try.prog (w.alloc (.cells #[.int .i64 0, .int .i64 0] 33)) 22 3 3 Try.underlying22 (by kernel_rfl) g 2 [f1, f2] rfl (by decide) 3
    (fun j hj => match j, hj with | 0, _ => cellS27_1 HA.1 | 1, _ => cellS27_2 HA.1)
    (fun j hj => match j, hj with | 0, _ => by rw [cellS27_0 HA.1]; rfl | 1, _ => by rw [cellS27_1 HA.1]; rfl)
    (fun j hj => match j, hj with | 0, _ => blk_frozen HA.1 0 | 1, _ => blk_frozen HA.1 1)
  simp only [List.map, World.setCells] at hcp
  have HI := Aside0.mk (show IsS27 w0 w g f0 f1 f2 f3 3 from ⟨HG, hg⟩)
  have HB := Aside0.mk hB
  have HH := Aside0.mk hg
  clear HG hB hg HA
  go_enter Try.func27, Try.ntmps27
  go_wp2
  go_region
  go_wp2
  exact bodyPost_ret (v := .agg #[.int .i64 2, .int .i64 f0]) (by simp [results, Try.results27, go_sem]) rfl ⟨rfl, ((((HI.out.set_0 f1).set_1 f2).set_4 2).alloc _).drew, below_drew ((((HB.out.setCell HH.out _).setCell HH.out _).setCell HH.out _).alloc (by simp; exact HB.out.size) _), keepBut_alloc ((((KeepBut.refl w g none).set_ 0 _).set_ 1 _).set_ 4 _) _⟩
theorem queue_next_at4 (g : Nat) (f0 f1 f2 f3 : Int) (w0 w : World) (hI : IsS27 w0 w g f0 f1 f2 f3 4) (hB : Below w0.heap.size w0 w) :
    Calls Try.prog 27 #[.pointer (some ⟨g, 0, none⟩)] w fun e w' => e = .returned (.agg #[.int .i64 2, .int .i64 f0]) ∧ IsS27 w0 w' g f1 f2 f3 f3 3 ∧ Below w0.heap.size w0 w' ∧ KeepBut w w' g none := by
  obtain ⟨HG, hg⟩ := hI
  have c0 := cellS27_0 HG
  have z0 := blk_frozen HG 0
  have c1 := cellS27_1 HG
  have z1 := blk_frozen HG 1
  have c2 := cellS27_2 HG
  have z2 := blk_frozen HG 2
  have c3 := cellS27_3 HG
  have z3 := blk_frozen HG 3
  have c4 := cellS27_4 HG
  have z4 := blk_frozen HG 4
  have hlt : g < w.heap.size := blk_lt HG
  have HA := (show IsS27 w0 w g f0 f1 f2 f3 4 from ⟨HG, hg⟩).alloc (.cells #[.int .i64 0, .int .i64 0] 33)
  have hcp := copy_in_array Try.prog (w.alloc (.cells #[.int .i64 0, .int .i64 0] 33)) 22 3 3 Try.underlying22 (by kernel_rfl) g 3 [f1, f2, f3] rfl (by decide) 3
    (fun j hj => match j, hj with | 0, _ => cellS27_1 HA.1 | 1, _ => cellS27_2 HA.1 | 2, _ => cellS27_3 HA.1)
    (fun j hj => match j, hj with | 0, _ => by rw [cellS27_0 HA.1]; rfl | 1, _ => by rw [cellS27_1 HA.1]; rfl | 2, _ => by rw [cellS27_2 HA.1]; rfl)
    (fun j hj => match j, hj with | 0, _ => blk_frozen HA.1 0 | 1, _ => blk_frozen HA.1 1 | 2, _ => blk_frozen HA.1 2)
  simp only [List.map, World.setCells] at hcp
  have HI := Aside0.mk (show IsS27 w0 w g f0 f1 f2 f3 4 from ⟨HG, hg⟩)
  have HB := Aside0.mk hB
  have HH := Aside0.mk hg
  clear HG hB hg HA
  go_enter Try.func27, Try.ntmps27
  go_wp2
  go_region
  go_wp2
  exact bodyPost_ret (v := .agg #[.int .i64 2, .int .i64 f0]) (by simp [results, Try.results27, go_sem]) rfl ⟨rfl, (((((HI.out.set_0 f1).set_1 f2).set_2 f3).set_4 3).alloc _).drew, below_drew (((((HB.out.setCell HH.out _).setCell HH.out _).setCell HH.out _).setCell HH.out _).alloc (by simp; exact HB.out.size) _), keepBut_alloc (((((KeepBut.refl w g none).set_ 0 _).set_ 1 _).set_ 2 _).set_ 4 _) _⟩
/-- What Next answers, and what the queue holds behind it. -/
def queue_Queue_Next.f (f0 f1 f2 f3 n : Int) : Option (Int × Int × Int × Int × Int × Int × Int) :=
  if n = 0 then some (1, 0, f0, f1, f2, f3, 0) else if n = 1 then some (2, f0, f0, f1, f2, f3, 0) else if n = 2 then some (2, f0, f1, f1, f2, f3, 1)
  else if n = 3 then some (2, f0, f1, f2, f2, f3, 2) else if n = 4 then some (2, f0, f1, f2, f3, f3, 3) else none
theorem queue_Queue_Next.calls (g : Nat) (s0_0 : Int) (s0_1 : Int) (s0_2 : Int) (s0_3 : Int) (s0_4 : Int) (r1 : Int) (r2 : Int) (r3 : Int) (r4 : Int) (r5 : Int) (r6 : Int) (r7 : Int) (w0 w : World) (hI : IsS27 w0 w g s0_0 s0_1 s0_2 s0_3 s0_4) (hB : Below w0.heap.size w0 w) (h : queue_Queue_Next.f s0_0 s0_1 s0_2 s0_3 s0_4 = some (r1, r2, r3, r4, r5, r6, r7)) :
    Calls Try.prog 27 #[.pointer (some ⟨g, 0, none⟩)] w fun e w' => e = .returned (.agg #[.int .i64 r1, .int .i64 r2]) ∧ IsS27 w0 w' g r3 r4 r5 r6 r7 ∧ Below w0.heap.size w0 w' ∧ KeepBut w w' g none := by
  unfold queue_Queue_Next.f at h
  by_cases h0 : s0_4 = 0
  · rw [if_pos h0] at h
    subst h0
    simp only [Option.some.injEq, Prod.mk.injEq] at h
    obtain ⟨rfl, rfl, rfl, rfl, rfl, rfl, rfl⟩ := h
    exact queue_next_at0 g _ _ _ _ w0 w hI hB
  · rw [if_neg h0] at h
    by_cases h1 : s0_4 = 1
    · rw [if_pos h1] at h
      subst h1
      simp only [Option.some.injEq, Prod.mk.injEq] at h
      obtain ⟨rfl, rfl, rfl, rfl, rfl, rfl, rfl⟩ := h
      exact queue_next_at1 g _ _ _ _ w0 w hI hB
    · rw [if_neg h1] at h
      by_cases h2 : s0_4 = 2
      · rw [if_pos h2] at h
        subst h2
        simp only [Option.some.injEq, Prod.mk.injEq] at h
        obtain ⟨rfl, rfl, rfl, rfl, rfl, rfl, rfl⟩ := h
        exact queue_next_at2 g _ _ _ _ w0 w hI hB
      · rw [if_neg h2] at h
        by_cases h3 : s0_4 = 3
        · rw [if_pos h3] at h
          subst h3
          simp only [Option.some.injEq, Prod.mk.injEq] at h
          obtain ⟨rfl, rfl, rfl, rfl, rfl, rfl, rfl⟩ := h
          exact queue_next_at3 g _ _ _ _ w0 w hI hB
        · rw [if_neg h3] at h
          by_cases h4 : s0_4 = 4
          · rw [if_pos h4] at h
            subst h4
            simp only [Option.some.injEq, Prod.mk.injEq] at h
            obtain ⟨rfl, rfl, rfl, rfl, rfl, rfl, rfl⟩ := h
            exact queue_next_at4 g _ _ _ _ w0 w hI hB
          · rw [if_neg h4] at h
            exact absurd h (by simp)

end Go.Proofs.Ytnggjnhfdjjphaa.PQP
