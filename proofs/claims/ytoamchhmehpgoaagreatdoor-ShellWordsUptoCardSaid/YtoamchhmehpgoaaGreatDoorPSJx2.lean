-- Written by the session's own program (wip/gen).
import Derived.Test.YtoamchhmehpgoaaGreatDoorPSJx0
import Derived.Test.YtoamchhmehpgoaaGreatDoorPSJx1
namespace Go.Proofs.YtoamchhmehpgoaaGreatDoor.PSJ
open Go.RowKit Go.Proofs.YtoamchhmehpgoaaGreatDoorW.PrintWords Go.Proofs.YtoamchhmehpgoaaGreatDoorW.PrintLast Go.Proofs.YtoamchhmehpgoaaGreatDoorW.PrintMore
attribute [local go_sem] max2_int min2_int max_two min_two max_three min_three max_four min_four   -- for this text's walks alone
set_option linter.unusedVariables false
set_option linter.unusedSimpArgs false

/-! ### queue_Queue_Send: function 142 (by hand) -/
theorem queue_send_at0 (g : Nat) (f0 f1 f2 f3 v : Int) (w0 w : World) (hI : IsS202 w0 w g f0 f1 f2 f3 0) (hB : Below w0.heap.size w0 w) (hv0 : 0 ≤ v) (hv1 : v ≤ 255) :
    Calls Tryz.prog 142 #[.pointer (some ⟨g, 0, none⟩), .int .i64 v] w fun e w' => e = .returned (.int .i64 0) ∧ IsS202 w0 w' g v f1 f2 f3 1 ∧ Below w0.heap.size w0 w' ∧ KeepBut w w' g none := by
  have b1 : decide (v < 0) = false := by simp; omega
  have b2 : decide (255 < v) = false := by simp; omega
  obtain ⟨HG, hg⟩ := hI
  have c0 := cellS202_0 HG
  have c4 := cellS202_4 HG
  have z0 := blk_frozen HG 0
  have z4 := blk_frozen HG 4
  have HI := Aside0.mk (show IsS202 w0 w g f0 f1 f2 f3 0 from ⟨HG, hg⟩)
  have HB := Aside0.mk hB
  have HH := Aside0.mk hg
  clear HG hB hg
  go_enter Tryz.func142, Tryz.ntmps142
  go_wp2
  go_region
  go_wp2
  go_ret
  exact ⟨rfl, (HI.out.set_0 v).drew.set_4 1, below_drew ((HB.out.setCell HH.out _).setCell HH.out _), ((KeepBut.refl w g none).set_ 0 _).set_ 4 _⟩
theorem queue_send_at1 (g : Nat) (f0 f1 f2 f3 v : Int) (w0 w : World) (hI : IsS202 w0 w g f0 f1 f2 f3 1) (hB : Below w0.heap.size w0 w) (hv0 : 0 ≤ v) (hv1 : v ≤ 255) :
    Calls Tryz.prog 142 #[.pointer (some ⟨g, 0, none⟩), .int .i64 v] w fun e w' => e = .returned (.int .i64 0) ∧ IsS202 w0 w' g f0 v f2 f3 2 ∧ Below w0.heap.size w0 w' ∧ KeepBut w w' g none := by
  have b1 : decide (v < 0) = false := by simp; omega
  have b2 : decide (255 < v) = false := by simp; omega
  obtain ⟨HG, hg⟩ := hI
  have c0 := cellS202_1 HG
  have c4 := cellS202_4 HG
  have z0 := blk_frozen HG 1
  have z4 := blk_frozen HG 4
  have HI := Aside0.mk (show IsS202 w0 w g f0 f1 f2 f3 1 from ⟨HG, hg⟩)
  have HB := Aside0.mk hB
  have HH := Aside0.mk hg
  clear HG hB hg
  go_enter Tryz.func142, Tryz.ntmps142
  go_wp2
  go_region
  go_wp2
  go_ret
  exact ⟨rfl, (HI.out.set_1 v).drew.set_4 2, below_drew ((HB.out.setCell HH.out _).setCell HH.out _), ((KeepBut.refl w g none).set_ 1 _).set_ 4 _⟩
theorem queue_send_at2 (g : Nat) (f0 f1 f2 f3 v : Int) (w0 w : World) (hI : IsS202 w0 w g f0 f1 f2 f3 2) (hB : Below w0.heap.size w0 w) (hv0 : 0 ≤ v) (hv1 : v ≤ 255) :
    Calls Tryz.prog 142 #[.pointer (some ⟨g, 0, none⟩), .int .i64 v] w fun e w' => e = .returned (.int .i64 0) ∧ IsS202 w0 w' g f0 f1 v f3 3 ∧ Below w0.heap.size w0 w' ∧ KeepBut w w' g none := by
  have b1 : decide (v < 0) = false := by simp; omega
  have b2 : decide (255 < v) = false := by simp; omega
  obtain ⟨HG, hg⟩ := hI
  have c0 := cellS202_2 HG
  have c4 := cellS202_4 HG
  have z0 := blk_frozen HG 2
  have z4 := blk_frozen HG 4
  have HI := Aside0.mk (show IsS202 w0 w g f0 f1 f2 f3 2 from ⟨HG, hg⟩)
  have HB := Aside0.mk hB
  have HH := Aside0.mk hg
  clear HG hB hg
  go_enter Tryz.func142, Tryz.ntmps142
  go_wp2
  go_region
  go_wp2
  go_ret
  exact ⟨rfl, (HI.out.set_2 v).drew.set_4 3, below_drew ((HB.out.setCell HH.out _).setCell HH.out _), ((KeepBut.refl w g none).set_ 2 _).set_ 4 _⟩
theorem queue_send_at3 (g : Nat) (f0 f1 f2 f3 v : Int) (w0 w : World) (hI : IsS202 w0 w g f0 f1 f2 f3 3) (hB : Below w0.heap.size w0 w) (hv0 : 0 ≤ v) (hv1 : v ≤ 255) :
    Calls Tryz.prog 142 #[.pointer (some ⟨g, 0, none⟩), .int .i64 v] w fun e w' => e = .returned (.int .i64 0) ∧ IsS202 w0 w' g f0 f1 f2 v 4 ∧ Below w0.heap.size w0 w' ∧ KeepBut w w' g none := by
  have b1 : decide (v < 0) = false := by simp; omega
  have b2 : decide (255 < v) = false := by simp; omega
  obtain ⟨HG, hg⟩ := hI
  have c0 := cellS202_3 HG
  have c4 := cellS202_4 HG
  have z0 := blk_frozen HG 3
  have z4 := blk_frozen HG 4
  have HI := Aside0.mk (show IsS202 w0 w g f0 f1 f2 f3 3 from ⟨HG, hg⟩)
  have HB := Aside0.mk hB
  have HH := Aside0.mk hg
  clear HG hB hg
  go_enter Tryz.func142, Tryz.ntmps142
  go_wp2
  go_region
  go_wp2
  go_ret
  exact ⟨rfl, (HI.out.set_3 v).drew.set_4 4, below_drew ((HB.out.setCell HH.out _).setCell HH.out _), ((KeepBut.refl w g none).set_ 3 _).set_ 4 _⟩
theorem queue_send_full (g : Nat) (f0 f1 f2 f3 v : Int) (w0 w : World) (hI : IsS202 w0 w g f0 f1 f2 f3 4) (hB : Below w0.heap.size w0 w) (hv0 : 0 ≤ v) (hv1 : v ≤ 255) :
    Calls Tryz.prog 142 #[.pointer (some ⟨g, 0, none⟩), .int .i64 v] w fun e w' => e = .returned (.int .i64 8) ∧ IsS202 w0 w' g f0 f1 f2 f3 4 ∧ Below w0.heap.size w0 w' ∧ KeepBut w w' g none := by
  have b1 : decide (v < 0) = false := by simp; omega
  have b2 : decide (255 < v) = false := by simp; omega
  obtain ⟨HG, hg⟩ := hI
  have c4 := cellS202_4 HG
  have HI := Aside0.mk (show IsS202 w0 w g f0 f1 f2 f3 4 from ⟨HG, hg⟩)
  have HB := Aside0.mk hB
  clear HG hB hg
  go_enter Tryz.func142, Tryz.ntmps142
  go_wp2
  go_ret
  exact ⟨rfl, HI.out, HB.out, KeepBut.refl w g none⟩
theorem queue_send_low (g : Nat) (f0 f1 f2 f3 f4 v : Int) (w0 w : World) (hI : IsS202 w0 w g f0 f1 f2 f3 f4) (hB : Below w0.heap.size w0 w) (hv : v < 0) :
    Calls Tryz.prog 142 #[.pointer (some ⟨g, 0, none⟩), .int .i64 v] w fun e w' => e = .returned (.int .i64 1) ∧ IsS202 w0 w' g f0 f1 f2 f3 f4 ∧ Below w0.heap.size w0 w' ∧ KeepBut w w' g none := by
  have b1 : decide (v < 0) = true := by simp; omega
  have HI := Aside0.mk hI
  have HB := Aside0.mk hB
  clear hI hB hv
  go_enter Tryz.func142, Tryz.ntmps142
  go_wp2
  go_ret
  exact ⟨rfl, HI.out, HB.out, KeepBut.refl w g none⟩
theorem queue_send_high (g : Nat) (f0 f1 f2 f3 f4 v : Int) (w0 w : World) (hI : IsS202 w0 w g f0 f1 f2 f3 f4) (hB : Below w0.heap.size w0 w) (hv : 255 < v) :
    Calls Tryz.prog 142 #[.pointer (some ⟨g, 0, none⟩), .int .i64 v] w fun e w' => e = .returned (.int .i64 1) ∧ IsS202 w0 w' g f0 f1 f2 f3 f4 ∧ Below w0.heap.size w0 w' ∧ KeepBut w w' g none := by
  have b1 : decide (v < 0) = false := by simp; omega
  have b2 : decide (255 < v) = true := by simp; omega
  have HI := Aside0.mk hI
  have HB := Aside0.mk hB
  clear hI hB hv
  go_enter Tryz.func142, Tryz.ntmps142
  go_wp2
  go_ret
  exact ⟨rfl, HI.out, HB.out, KeepBut.refl w g none⟩
/-- What Send answers, and what the queue holds behind it. -/
def queue_Queue_Send.f (f0 f1 f2 f3 n v : Int) : Option (Int × Int × Int × Int × Int × Int) :=
  if v < 0 ∨ 255 < v then some (1, f0, f1, f2, f3, n) else if n = 4 then some (8, f0, f1, f2, f3, n) else if n = 0 then some (0, v, f1, f2, f3, 1) else if n = 1 then some (0, f0, v, f2, f3, 2)
  else if n = 2 then some (0, f0, f1, v, f3, 3) else if n = 3 then some (0, f0, f1, f2, v, 4) else none
theorem queue_Queue_Send.calls (g : Nat) (s0_0 : Int) (s0_1 : Int) (s0_2 : Int) (s0_3 : Int) (s0_4 : Int) (a1 : Int) (r1 : Int) (r2 : Int) (r3 : Int) (r4 : Int) (r5 : Int) (r6 : Int) (w0 w : World) (hI : IsS202 w0 w g s0_0 s0_1 s0_2 s0_3 s0_4) (hB : Below w0.heap.size w0 w) (h : queue_Queue_Send.f s0_0 s0_1 s0_2 s0_3 s0_4 a1 = some (r1, r2, r3, r4, r5, r6)) :
    Calls Tryz.prog 142 #[.pointer (some ⟨g, 0, none⟩), .int .i64 a1] w fun e w' => e = .returned (.int .i64 r1) ∧ IsS202 w0 w' g r2 r3 r4 r5 r6 ∧ Below w0.heap.size w0 w' ∧ KeepBut w w' g none := by
  unfold queue_Queue_Send.f at h
  by_cases hv : a1 < 0 ∨ 255 < a1
  · rw [if_pos hv] at h
    simp only [Option.some.injEq, Prod.mk.injEq] at h
    obtain ⟨rfl, rfl, rfl, rfl, rfl, rfl⟩ := h
    rcases hv with hv | hv
    · exact queue_send_low g _ _ _ _ _ a1 w0 w hI hB hv
    · exact queue_send_high g _ _ _ _ _ a1 w0 w hI hB hv
  · rw [if_neg hv] at h
    by_cases h4 : s0_4 = 4
    · rw [if_pos h4] at h
      subst h4
      simp only [Option.some.injEq, Prod.mk.injEq] at h
      obtain ⟨rfl, rfl, rfl, rfl, rfl, rfl⟩ := h
      exact queue_send_full g _ _ _ _ a1 w0 w hI hB (by omega) (by omega)
    · rw [if_neg h4] at h
      by_cases h0 : s0_4 = 0
      · rw [if_pos h0] at h
        subst h0
        simp only [Option.some.injEq, Prod.mk.injEq] at h
        obtain ⟨rfl, rfl, rfl, rfl, rfl, rfl⟩ := h
        exact queue_send_at0 g _ _ _ _ _ w0 w hI hB (by omega) (by omega)
      · rw [if_neg h0] at h
        by_cases h1 : s0_4 = 1
        · rw [if_pos h1] at h
          subst h1
          simp only [Option.some.injEq, Prod.mk.injEq] at h
          obtain ⟨rfl, rfl, rfl, rfl, rfl, rfl⟩ := h
          exact queue_send_at1 g _ _ _ _ _ w0 w hI hB (by omega) (by omega)
        · rw [if_neg h1] at h
          by_cases h2 : s0_4 = 2
          · rw [if_pos h2] at h
            subst h2
            simp only [Option.some.injEq, Prod.mk.injEq] at h
            obtain ⟨rfl, rfl, rfl, rfl, rfl, rfl⟩ := h
            exact queue_send_at2 g _ _ _ _ _ w0 w hI hB (by omega) (by omega)
          · rw [if_neg h2] at h
            by_cases h3 : s0_4 = 3
            · rw [if_pos h3] at h
              subst h3
              simp only [Option.some.injEq, Prod.mk.injEq] at h
              obtain ⟨rfl, rfl, rfl, rfl, rfl, rfl⟩ := h
              exact queue_send_at3 g _ _ _ _ _ w0 w hI hB (by omega) (by omega)
            · rw [if_neg h3] at h
              exact absurd h (by simp)

-- NOT PRINTED: function 113 (net_Net_call)

-- NOT PRINTED: function 85 (net_Net_hosts)

/-! ### state_Sends: function 143 (by hand) -/
/-- The kind of frame that a node sends. -/
def state_Sends.f (a0 : Int) : Option Int := some (if a0 = 2 then 1 else if a0 = 3 then 2 else if a0 = 4 then 3 else 0)
theorem state_Sends.calls (a0 : Int) (r : Int) (w : World) (h : state_Sends.f a0 = some r) :
    Calls Tryz.prog 143 #[.int .i64 a0] w fun e w' => e = .returned (.int .i64 r) ∧ Below w.heap.size w w' := by
  obtain rfl := Option.some.inj h
  have hb := fun o => (Below.refl w.heap.size w).alloc (Nat.le_refl _) o
  by_cases h0 : a0 < 0
  · have d0 : decide (a0 < 0) = true := decide_eq_true h0
    rw [if_neg (by omega), if_neg (by omega), if_neg (by omega)]
    clear h0
    go_enter Tryz.func143, Tryz.ntmps143
    go_wp2
    go_ret
    exact ⟨rfl, hb _⟩
  by_cases h5 : 5 ≤ a0
  · have d0 : decide (a0 < 0) = false := decide_eq_false h0
    have d5 : decide (5 ≤ a0) = true := decide_eq_true h5
    rw [if_neg (by omega), if_neg (by omega), if_neg (by omega)]
    clear h0 h5
    go_enter Tryz.func143, Tryz.ntmps143
    go_wp2
    go_ret
    exact ⟨rfl, hb _⟩
  obtain rfl | rfl | rfl | rfl | rfl : a0 = 0 ∨ a0 = 1 ∨ a0 = 2 ∨ a0 = 3 ∨ a0 = 4 := by omega
  all_goals
    clear h0 h5
    go_enter Tryz.func143, Tryz.ntmps143
    go_wp2
    go_ret
    exact ⟨rfl, hb _⟩

-- NOT PRINTED: function 144 (conf_Wire)

/-! ### queue_Queue_Next: function 145 (by hand) -/
theorem addr_add_at (g o j : Nat) : (⟨g, o, none⟩ : Addr).add j = ⟨g, o + j, none⟩ := by unfold Addr.add; split <;> simp_all
theorem setCells_drew (g : Nat) : ∀ (vs : List Value) (o : Nat) (W : World), W.drew.setCells g o vs = (W.setCells g o vs).drew
  | [], _, _ => rfl
  | v :: r, o, W => by
    rw [World.setCells, World.setCells, World.setCell_drew]
    exact setCells_drew g r (o + 1) _
theorem copy_in_array (P : Program) (W : World) (T E ty : TypeId) (hu : P.underlying T = some (.slice E)) (hs : (P.info? E).map (·.size) = some 1) (g m : Nat) (cs : List Int) (hl : cs.length = m) (hm : m ≤ 4) (sc : Nat)
    (hsrc : ∀ j, j < m → W.cell? ⟨g, 1 + j, none⟩ = some (.int .i64 (cs.getD j 0))) (hc : ∀ j, j < m → (W.cell? ⟨g, j, none⟩).isSome = true) (hf : ∀ j, j < m → W.frozen? ⟨g, j, none⟩ = false) :
    (Builtin.copy_ #[T, T] ty #[.slice (some ⟨g, 0, none⟩) 4 4, .slice (some ⟨g, 1, none⟩) m sc]).run P W.drew = .ok (goInt m) (W.setCells g 0 (cs.map (Value.int .i64))).drew := by
  have h := run_copy_cells (P := P) W.drew T T ty E g 0 4 4 ⟨g, 1, none⟩ m sc (cs.map (Value.int .i64)) hu hs (by rw [List.length_map, hl]; exact (Nat.min_eq_left hm).symm) (by
      intro j v hj
      have hjl : j < cs.length := by
        refine Nat.lt_of_not_le fun hle => ?_
        rw [List.getElem?_eq_none (by rw [List.length_map]; exact hle)] at hj
        cases hj
      rw [List.getElem?_map, List.getElem?_eq_getElem hjl] at hj
      have hv : Value.int .i64 cs[j] = v := by simpa using hj
      rw [addr_add_at, ← hv]
      have := hsrc j (by omega)
      rw [List.getD_eq_getElem?_getD, List.getElem?_eq_getElem hjl] at this
      exact this)
    (by intro j hj; rw [List.length_map, hl] at hj; rw [Nat.zero_add]; exact hc j hj) (by intro j hj; rw [List.length_map, hl] at hj; rw [Nat.zero_add]; exact hf j hj)
    (by intro v hv; obtain ⟨x, _, rfl⟩ := List.mem_map.1 hv; rfl)
  rw [List.length_map, hl] at h
  rw [h, setCells_drew]
theorem keepBut_alloc {w W : World} {g : Nat} (h : KeepBut w W g none) (o : Obj) : KeepBut w (W.alloc o) g none :=
  h.trans (KeepBut.of_below (below_alloc (Below.refl W.heap.size W) o) g none) (.inl rfl)
theorem queue_next_at0 (g : Nat) (f0 f1 f2 f3 : Int) (w0 w : World) (hI : IsS202 w0 w g f0 f1 f2 f3 0) (hB : Below w0.heap.size w0 w) :
    Calls Tryz.prog 145 #[.pointer (some ⟨g, 0, none⟩)] w fun e w' => e = .returned (.agg #[.int .i64 1, .int .i64 0]) ∧ IsS202 w0 w' g f0 f1 f2 f3 0 ∧ Below w0.heap.size w0 w' ∧ KeepBut w w' g none := by
  obtain ⟨HG, hg⟩ := hI
  have c4 := cellS202_4 HG
  have hlt : g < w.heap.size := blk_lt HG
  have HI := Aside0.mk (show IsS202 w0 w g f0 f1 f2 f3 0 from ⟨HG, hg⟩)
  have HB := Aside0.mk hB
  clear HG hB hg
  go_enter Tryz.func145, Tryz.ntmps145
  go_wp2
  exact bodyPost_ret (v := .agg #[.int .i64 1, .int .i64 0]) (by simp [results, Tryz.results145, go_sem]) rfl ⟨rfl, HI.out.alloc _, HB.out.alloc HB.out.size _, KeepBut.of_below (below_alloc (Below.refl _ _) _) g none⟩
theorem queue_next_at1 (g : Nat) (f0 f1 f2 f3 : Int) (w0 w : World) (hI : IsS202 w0 w g f0 f1 f2 f3 1) (hB : Below w0.heap.size w0 w) :
    Calls Tryz.prog 145 #[.pointer (some ⟨g, 0, none⟩)] w fun e w' => e = .returned (.agg #[.int .i64 2, .int .i64 f0]) ∧ IsS202 w0 w' g f0 f1 f2 f3 0 ∧ Below w0.heap.size w0 w' ∧ KeepBut w w' g none := by
  obtain ⟨HG, hg⟩ := hI
  have c0 := cellS202_0 HG
  have z0 := blk_frozen HG 0
  have c1 := cellS202_1 HG
  have z1 := blk_frozen HG 1
  have c2 := cellS202_2 HG
  have z2 := blk_frozen HG 2
  have c3 := cellS202_3 HG
  have z3 := blk_frozen HG 3
  have c4 := cellS202_4 HG
  have z4 := blk_frozen HG 4
  have hlt : g < w.heap.size := blk_lt HG
  have HA := (show IsS202 w0 w g f0 f1 f2 f3 1 from ⟨HG, hg⟩).alloc (.cells #[.int .i64 0, .int .i64 0] 110)
  have hcp := copy_in_array Tryz.prog (w.alloc (.cells #[.int .i64 0, .int .i64 0] 110)) 48 3 3 Tryz.underlying48 (by kernel_rfl) g 0 [] rfl (by decide) 3
    (fun j hj => absurd hj (Nat.not_lt_zero j))
    (fun j hj => absurd hj (Nat.not_lt_zero j))
    (fun j hj => absurd hj (Nat.not_lt_zero j))
  simp only [List.map, World.setCells] at hcp
  have HI := Aside0.mk (show IsS202 w0 w g f0 f1 f2 f3 1 from ⟨HG, hg⟩)
  have HB := Aside0.mk hB
  have HH := Aside0.mk hg
  clear HG hB hg HA
  go_enter Tryz.func145, Tryz.ntmps145
  go_wp2
  go_region
  go_wp2
  exact bodyPost_ret (v := .agg #[.int .i64 2, .int .i64 f0]) (by simp [results, Tryz.results145, go_sem]) rfl ⟨rfl, ((HI.out.set_4 0).alloc _).drew, below_drew ((HB.out.setCell HH.out _).alloc (by simp; exact HB.out.size) _), keepBut_alloc ((KeepBut.refl w g none).set_ 4 _) _⟩
theorem queue_next_at2 (g : Nat) (f0 f1 f2 f3 : Int) (w0 w : World) (hI : IsS202 w0 w g f0 f1 f2 f3 2) (hB : Below w0.heap.size w0 w) :
    Calls Tryz.prog 145 #[.pointer (some ⟨g, 0, none⟩)] w fun e w' => e = .returned (.agg #[.int .i64 2, .int .i64 f0]) ∧ IsS202 w0 w' g f1 f1 f2 f3 1 ∧ Below w0.heap.size w0 w' ∧ KeepBut w w' g none := by
  obtain ⟨HG, hg⟩ := hI
  have c0 := cellS202_0 HG
  have z0 := blk_frozen HG 0
  have c1 := cellS202_1 HG
  have z1 := blk_frozen HG 1
  have c2 := cellS202_2 HG
  have z2 := blk_frozen HG 2
  have c3 := cellS202_3 HG
  have z3 := blk_frozen HG 3
  have c4 := cellS202_4 HG
  have z4 := blk_frozen HG 4
  have hlt : g < w.heap.size := blk_lt HG
  have HA := (show IsS202 w0 w g f0 f1 f2 f3 2 from ⟨HG, hg⟩).alloc (.cells #[.int .i64 0, .int .i64 0] 110)
  have hcp := copy_in_array Tryz.prog (w.alloc (.cells #[.int .i64 0, .int .i64 0] 110)) 48 3 3 Tryz.underlying48 (by kernel_rfl) g 1 [f1] rfl (by decide) 3
    (fun j hj => match j, hj with | 0, _ => cellS202_1 HA.1)
    (fun j hj => match j, hj with | 0, _ => by rw [cellS202_0 HA.1]; rfl)
    (fun j hj => match j, hj with | 0, _ => blk_frozen HA.1 0)
  simp only [List.map, World.setCells] at hcp
  have HI := Aside0.mk (show IsS202 w0 w g f0 f1 f2 f3 2 from ⟨HG, hg⟩)
  have HB := Aside0.mk hB
  have HH := Aside0.mk hg
  clear HG hB hg HA
  go_enter Tryz.func145, Tryz.ntmps145
  go_wp2
  go_region
  go_wp2
  exact bodyPost_ret (v := .agg #[.int .i64 2, .int .i64 f0]) (by simp [results, Tryz.results145, go_sem]) rfl ⟨rfl, (((HI.out.set_0 f1).set_4 1).alloc _).drew, below_drew (((HB.out.setCell HH.out _).setCell HH.out _).alloc (by simp; exact HB.out.size) _), keepBut_alloc (((KeepBut.refl w g none).set_ 0 _).set_ 4 _) _⟩
theorem queue_next_at3 (g : Nat) (f0 f1 f2 f3 : Int) (w0 w : World) (hI : IsS202 w0 w g f0 f1 f2 f3 3) (hB : Below w0.heap.size w0 w) :
    Calls Tryz.prog 145 #[.pointer (some ⟨g, 0, none⟩)] w fun e w' => e = .returned (.agg #[.int .i64 2, .int .i64 f0]) ∧ IsS202 w0 w' g f1 f2 f2 f3 2 ∧ Below w0.heap.size w0 w' ∧ KeepBut w w' g none := by
  obtain ⟨HG, hg⟩ := hI
  have c0 := cellS202_0 HG
  have z0 := blk_frozen HG 0
  have c1 := cellS202_1 HG
  have z1 := blk_frozen HG 1
  have c2 := cellS202_2 HG
  have z2 := blk_frozen HG 2
  have c3 := cellS202_3 HG
  have z3 := blk_frozen HG 3
  have c4 := cellS202_4 HG
  have z4 := blk_frozen HG 4
  have hlt : g < w.heap.size := blk_lt HG
  have HA := (show IsS202 w0 w g f0 f1 f2 f3 3 from ⟨HG, hg⟩).alloc (.cells #[.int .i64 0, .int .i64 0] 110)
  have hcp := copy_in_array Tryz.prog (w.alloc (.cells #[.int .i64 0, .int .i64 0] 110)) 48 3 3 Tryz.underlying48 (by kernel_rfl) g 2 [f1, f2] rfl (by decide) 3
    (fun j hj => match j, hj with | 0, _ => cellS202_1 HA.1 | 1, _ => cellS202_2 HA.1)
    (fun j hj => match j, hj with | 0, _ => by rw [cellS202_0 HA.1]; rfl | 1, _ => by rw [cellS202_1 HA.1]; rfl)
    (fun j hj => match j, hj with | 0, _ => blk_frozen HA.1 0 | 1, _ => blk_frozen HA.1 1)
  simp only [List.map, World.setCells] at hcp
  have HI := Aside0.mk (show IsS202 w0 w g f0 f1 f2 f3 3 from ⟨HG, hg⟩)
  have HB := Aside0.mk hB
  have HH := Aside0.mk hg
  clear HG hB hg HA
  go_enter Tryz.func145, Tryz.ntmps145
  go_wp2
  go_region
  go_wp2
  exact bodyPost_ret (v := .agg #[.int .i64 2, .int .i64 f0]) (by simp [results, Tryz.results145, go_sem]) rfl ⟨rfl, ((((HI.out.set_0 f1).set_1 f2).set_4 2).alloc _).drew, below_drew ((((HB.out.setCell HH.out _).setCell HH.out _).setCell HH.out _).alloc (by simp; exact HB.out.size) _), keepBut_alloc ((((KeepBut.refl w g none).set_ 0 _).set_ 1 _).set_ 4 _) _⟩
theorem queue_next_at4 (g : Nat) (f0 f1 f2 f3 : Int) (w0 w : World) (hI : IsS202 w0 w g f0 f1 f2 f3 4) (hB : Below w0.heap.size w0 w) :
    Calls Tryz.prog 145 #[.pointer (some ⟨g, 0, none⟩)] w fun e w' => e = .returned (.agg #[.int .i64 2, .int .i64 f0]) ∧ IsS202 w0 w' g f1 f2 f3 f3 3 ∧ Below w0.heap.size w0 w' ∧ KeepBut w w' g none := by
  obtain ⟨HG, hg⟩ := hI
  have c0 := cellS202_0 HG
  have z0 := blk_frozen HG 0
  have c1 := cellS202_1 HG
  have z1 := blk_frozen HG 1
  have c2 := cellS202_2 HG
  have z2 := blk_frozen HG 2
  have c3 := cellS202_3 HG
  have z3 := blk_frozen HG 3
  have c4 := cellS202_4 HG
  have z4 := blk_frozen HG 4
  have hlt : g < w.heap.size := blk_lt HG
  have HA := (show IsS202 w0 w g f0 f1 f2 f3 4 from ⟨HG, hg⟩).alloc (.cells #[.int .i64 0, .int .i64 0] 110)
  have hcp := copy_in_array Tryz.prog (w.alloc (.cells #[.int .i64 0, .int .i64 0] 110)) 48 3 3 Tryz.underlying48 (by kernel_rfl) g 3 [f1, f2, f3] rfl (by decide) 3
    (fun j hj => match j, hj with | 0, _ => cellS202_1 HA.1 | 1, _ => cellS202_2 HA.1 | 2, _ => cellS202_3 HA.1)
    (fun j hj => match j, hj with | 0, _ => by rw [cellS202_0 HA.1]; rfl | 1, _ => by rw [cellS202_1 HA.1]; rfl | 2, _ => by rw [cellS202_2 HA.1]; rfl)
    (fun j hj => match j, hj with | 0, _ => blk_frozen HA.1 0 | 1, _ => blk_frozen HA.1 1 | 2, _ => blk_frozen HA.1 2)
  simp only [List.map, World.setCells] at hcp
  have HI := Aside0.mk (show IsS202 w0 w g f0 f1 f2 f3 4 from ⟨HG, hg⟩)
  have HB := Aside0.mk hB
  have HH := Aside0.mk hg
  clear HG hB hg HA
  go_enter Tryz.func145, Tryz.ntmps145
  go_wp2
  go_region
  go_wp2
  exact bodyPost_ret (v := .agg #[.int .i64 2, .int .i64 f0]) (by simp [results, Tryz.results145, go_sem]) rfl ⟨rfl, (((((HI.out.set_0 f1).set_1 f2).set_2 f3).set_4 3).alloc _).drew, below_drew (((((HB.out.setCell HH.out _).setCell HH.out _).setCell HH.out _).setCell HH.out _).alloc (by simp; exact HB.out.size) _), keepBut_alloc (((((KeepBut.refl w g none).set_ 0 _).set_ 1 _).set_ 2 _).set_ 4 _) _⟩
/-- What Next answers, and what the queue holds behind it. -/
def queue_Queue_Next.f (f0 f1 f2 f3 n : Int) : Option (Int × Int × Int × Int × Int × Int × Int) :=
  if n = 0 then some (1, 0, f0, f1, f2, f3, 0) else if n = 1 then some (2, f0, f0, f1, f2, f3, 0) else if n = 2 then some (2, f0, f1, f1, f2, f3, 1)
  else if n = 3 then some (2, f0, f1, f2, f2, f3, 2) else if n = 4 then some (2, f0, f1, f2, f3, f3, 3) else none
theorem queue_Queue_Next.calls (g : Nat) (s0_0 : Int) (s0_1 : Int) (s0_2 : Int) (s0_3 : Int) (s0_4 : Int) (r1 : Int) (r2 : Int) (r3 : Int) (r4 : Int) (r5 : Int) (r6 : Int) (r7 : Int) (w0 w : World) (hI : IsS202 w0 w g s0_0 s0_1 s0_2 s0_3 s0_4) (hB : Below w0.heap.size w0 w) (h : queue_Queue_Next.f s0_0 s0_1 s0_2 s0_3 s0_4 = some (r1, r2, r3, r4, r5, r6, r7)) :
    Calls Tryz.prog 145 #[.pointer (some ⟨g, 0, none⟩)] w fun e w' => e = .returned (.agg #[.int .i64 r1, .int .i64 r2]) ∧ IsS202 w0 w' g r3 r4 r5 r6 r7 ∧ Below w0.heap.size w0 w' ∧ KeepBut w w' g none := by
  unfold queue_Queue_Next.f at h
  by_cases h0 : s0_4 = 0
  · rw [if_pos h0] at h
    subst h0
    simp only [Option.some.injEq, Prod.mk.injEq] at h
    obtain ⟨rfl, rfl, rfl, rfl, rfl, rfl, rfl⟩ := h
    exact queue_next_at0 g _ _ _ _ w0 w hI hB
  · rw [if_neg h0] at h
    by_cases h1 : s0_4 = 1
    · rw [if_pos h1] at h
      subst h1
      simp only [Option.some.injEq, Prod.mk.injEq] at h
      obtain ⟨rfl, rfl, rfl, rfl, rfl, rfl, rfl⟩ := h
      exact queue_next_at1 g _ _ _ _ w0 w hI hB
    · rw [if_neg h1] at h
      by_cases h2 : s0_4 = 2
      · rw [if_pos h2] at h
        subst h2
        simp only [Option.some.injEq, Prod.mk.injEq] at h
        obtain ⟨rfl, rfl, rfl, rfl, rfl, rfl, rfl⟩ := h
        exact queue_next_at2 g _ _ _ _ w0 w hI hB
      · rw [if_neg h2] at h
        by_cases h3 : s0_4 = 3
        · rw [if_pos h3] at h
          subst h3
          simp only [Option.some.injEq, Prod.mk.injEq] at h
          obtain ⟨rfl, rfl, rfl, rfl, rfl, rfl, rfl⟩ := h
          exact queue_next_at3 g _ _ _ _ w0 w hI hB
        · rw [if_neg h3] at h
          by_cases h4 : s0_4 = 4
          · rw [if_pos h4] at h
            subst h4
            simp only [Option.some.injEq, Prod.mk.injEq] at h
            obtain ⟨rfl, rfl, rfl, rfl, rfl, rfl, rfl⟩ := h
            exact queue_next_at4 g _ _ _ _ w0 w hI hB
          · rw [if_neg h4] at h
            exact absurd h (by simp)

-- NOT PRINTED: function 146 (net_Net_echo)

-- NOT PRINTED: function 115 (net_Net_frame)

-- NOT PRINTED: function 65 (abi_NoEscape)

-- NOT PRINTED: function 44 (strings_Builder_copyCheck)

-- NOT PRINTED: function 26 (strings_Builder_WriteString)

-- NOT PRINTED: function 28 (strings_Builder_String)

-- NOT PRINTED: function 147 (sym_Bits)

-- NOT PRINTED: function 148 (frame_item)

-- (by hand: runes.aux)
theorem drop_at (s : ByteArray) (pos : Nat) (h : pos < s.size) : s.data.toList.drop pos = s[pos]'h :: s.data.toList.drop (pos + 1) := by
  have h' : pos < s.data.toList.length := by simpa using h
  rw [List.drop_eq_getElem_cons h']; rfl
theorem extract_all (s : ByteArray) (n : Nat) (h : s.size ≤ n) : s.extract 0 n = s := by
  apply ByteArray.ext
  rw [ByteArray.data_extract]
  apply Array.ext'
  rw [Array.toList_extract]
  simp
  exact List.take_of_length_le (by simpa using h)
/-- A sign of a text, as the range has it: of an ASCII byte the byte; else it is no ASCII sign. -/
theorem rune_at (s : ByteArray) (pos : Nat) (h : pos < s.size) :
    ∃ r n, Utf8.decode s pos = (r, n) ∧ 1 ≤ n ∧ (((s[pos]'h).toNat < 128 ∧ r = (s[pos]'h).toNat ∧ n = 1) ∨ (128 ≤ (s[pos]'h).toNat ∧ 128 ≤ r)) := by
  by_cases ha : (s[pos]'h).toNat < 128
  · exact ⟨_, _, decode_ascii s pos h ha, Nat.le_refl _, .inl ⟨ha, rfl, rfl⟩⟩
  · have := decode_high s pos h (by omega)
    exact ⟨_, _, rfl, this.2, .inr ⟨by omega, this.1⟩⟩

-- (by hand: bits64.aux)
theorem bits_or_i64 (a b : Nat) (ha : a < 9223372036854775808) (hb : b < 9223372036854775808) : bits .or .i64 (a : Int) (b : Int) = ((a ||| b : Nat) : Int) :=
  (bits_nat .i64 63 (by decide) (fun n h0 h1 => by rw [IntKind.wrap_i64]; omega) a b (by omega) (by omega)).2
theorem or_double (a b : Nat) (ha : a < 4611686018427387904) (hb : b ≤ 1) : bits .or .i64 ((a : Int) * 2) (b : Int) = ((2 * a + b : Nat) : Int) := by
  have e : (a : Int) * 2 = ((2 * a : Nat) : Int) := by omega
  rw [e, bits_or_i64 _ _ (by omega) (by omega)]
  have := Nat.two_pow_add_eq_or_of_lt (i := 1) (b := b) (by omega) a
  rw [Nat.pow_one] at this
  rw [this]
theorem bits_and_i64 (a b : Nat) (ha : a < 9223372036854775808) (hb : b < 9223372036854775808) : bits .and .i64 (a : Int) (b : Int) = ((a &&& b : Nat) : Int) :=
  (bits_nat .i64 63 (by decide) (fun n h0 h1 => by rw [IntKind.wrap_i64]; omega) a b (by omega) (by omega)).1
theorem bits_xor_i64 (a b : Nat) (ha : a < 9223372036854775808) (hb : b < 9223372036854775808) : bits .xor .i64 (a : Int) (b : Int) = ((a ^^^ b : Nat) : Int) := by
  have h : a ^^^ b < 2 ^ 63 := Nat.xor_lt_two_pow (by omega) (by omega)
  have ha' : a % 2 ^ IntKind.i64.bits = a := Nat.mod_eq_of_lt (by simp [IntKind.bits]; omega)
  have hb' : b % 2 ^ IntKind.i64.bits = b := Nat.mod_eq_of_lt (by simp [IntKind.bits]; omega)
  simp only [bits, BitVec.ofInt_natCast, BitVec.toNat_xor, BitVec.toNat_ofNat, ha', hb']
  rw [IntKind.wrap_i64]
  omega

end Go.Proofs.YtoamchhmehpgoaaGreatDoor.PSJ
