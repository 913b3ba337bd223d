/- A row of numbers taken out of words. -/
import Derived.Test.YtoamchhmehpgoaaGreatDoorNumber
namespace Go.Proofs.YtoamchhmehpgoaaGreatDoor.PSJ
open Go Go.RowKit Go.Proofs.YtoamchhmehpgoaaGreatDoorW.PrintWords Go.Proofs.YtoamchhmehpgoaaGreatDoorW.PrintLast Go.Proofs.YtoamchhmehpgoaaGreatDoorW.PrintMore
attribute [local go_sem] max2_int min2_int max_two min_two max_three min_three max_four min_four
set_option linter.unusedVariables false
set_option linter.unusedSimpArgs false
/-- A block written anew. -/
def putO (W : World) (b : Nat) (o : Obj) : World := { W with heap := W.heap.setIfInBounds b o }
theorem putO_size (W : World) (b : Nat) (o : Obj) : (putO W b o).heap.size = W.heap.size := by simp [putO]
theorem putO_at (W : World) (b : Nat) (o o' : Obj) (h : W.heap[b]? = some o') : (putO W b o).heap[b]? = some o := by
  have hb : b < W.heap.size := blk_lt h
  simp [putO, hb]
theorem putO_ne (W : World) (b k : Nat) (o : Obj) (h : k ≠ b) : (putO W b o).heap[k]? = W.heap[k]? := by
  simp only [putO]
  rw [Array.getElem?_setIfInBounds_ne (Ne.symm h)]
theorem putO_kp (W : World) (b : Nat) (o : Obj) : Kp (fun k => k = b) W (putO W b o) := ⟨rfl, rfl, rfl, Nat.le_of_eq (putO_size W b o).symm, fun k _ hk => putO_ne W b k o hk⟩
theorem next_in {P : Program} (W : World) (b : Nat) (s : ByteArray) (pos r : Nat) (ty : TypeId) (h : W.heap[b]? = some (.stringIter s pos)) (hp : pos < s.size) (hd : Utf8.decode s pos = (r, 1)) :
    (Instr.next (.pointer (some ⟨b, 0, none⟩)) true ty).run P W = .ok (.tuple #[.bool true, .int .i64 pos, .int .i32 r]) (putO W b (.stringIter s (pos + 1))) := by
  simp only [Instr.next, getObj, setObj, Sem.run_bind, Sem.run, h, Result.andThen, hp, if_true, hd]
  simp [goInt, putO]
theorem next_over {P : Program} (W : World) (b : Nat) (s : ByteArray) (pos : Nat) (ty : TypeId) (h : W.heap[b]? = some (.stringIter s pos)) (hp : ¬ pos < s.size) :
    (Instr.next (.pointer (some ⟨b, 0, none⟩)) true ty).run P W = .ok (.tuple #[.bool false]) W := by
  simp [Instr.next, getObj, Sem.run, h, hp]
theorem R_putO {α : Type} {d : Kd α} {e : Nat} {w : World} {base : Nat} {v : Value} {xs : List α} {b : Nat} {o : Obj} {s : ByteArray} {pos : Nat} (hb : w.heap[b]? = some (.stringIter s pos)) (h : d.R e w base (fun _ => True) v xs) : d.R e (putO w b o) base (fun _ => True) v xs :=
  Kd.R_mono (Kd.R_step (Kd.R_bound h) (fun k hk hlt => putO_ne w b k o (fun e => by
    obtain ⟨_, _, _, q, _, cells, hc⟩ := hk
    rw [e, hb] at hc
    cases hc))) (fun _ _ => trivial)
set_option maxRecDepth 100000 in
theorem split_nums (row : ByteArray) (ws : List ByteArray) (ns : List Int) (hrow : row.size = ws.length) (hl : ws.length ≤ 9) (hlen : ns.length = ws.length) (hdec : ∀ pos, pos < row.size → Utf8.decode row pos = (110, 1))
    (HN : ∀ (j : Nat) s x, ws[j]? = some s → ns[j]? = some x → ∀ W, Calls Tryz.prog 40 #[.string s] W fun e w' => e = .returned (.tuple #[.int .i64 x, .bool true]) ∧ Below W.heap.size W w')
    (ad : Addr) (c : Nat) (w : World) (hc : ∀ (j : Nat) s, ws[j]? = some s → w.cell? (ad.add j) = some (.string s)) :
    Calls Tryz.prog 22 #[.slice (some ad) ws.length c, .string row] w fun e w' => ∃ v, e = .returned (.tuple #[v, .slice none 0 0, .bool true]) ∧ Kd.R (Kd.int .i64) 3 w' w.heap.size (fun _ => True) v ns ∧ Below w.heap.size w w' := by
  have h0 : ((ws.length : Int) != (row.size : Int)) = false := by rw [hrow]; simp
  have hB0 := Aside0.mk ((Below.refl w.heap.size w).alloc (Nat.le_refl _) (.stringIter row 0))
  have hI0 := Aside0.mk (World.iter_heap w row 0)
  have hHN := Aside0.mk HN
  have hHC := Aside0.mk hc
  have hD := Aside0.mk hdec
  have hRW := Aside0.mk hrow
  clear HN hc hdec hrow
  go_enter Tryz.func22, Tryz.ntmps22
  go_wp2
  clear h0
  change Aside0 (Below w.heap.size w (w.iter row 0)) at hB0
  generalize w.iter row 0 = W0 at *
  generalize hg : w.heap.size = g at *
  go_loopw [4, 5] (fun v v5 w' => ∃ pos : Nat, v5 = .slice none 0 0 ∧ pos ≤ ws.length ∧ Aside0 (w'.heap[g]? = some (.stringIter row pos)) ∧ Aside0 (Kd.R (Kd.int .i64) 3 w' g (fun _ => True) v (ns.take pos)) ∧ Aside0 (Below g w w')) (fun _ _ w' => ws.length - w'.iterPos g)
  case atStart => exact ⟨0, rfl, by omega, hI0, ⟨by rw [List.take_zero]; exact Kd.R_nil _ _ _ _ _⟩, hB0⟩
  case round =>
    obtain ⟨pos, rfl, hp, hI, hR, hB⟩ := hrel
    have hmeas : wr.iterPos g = pos := by unfold World.iterPos; rw [hI.out]
    have HM := Aside0.mk hmeas
    clear hmeas
    by_cases hlt : pos < ws.length
    · obtain ⟨s, hs⟩ : ∃ s, ws[pos]? = some s := ⟨_, List.getElem?_eq_getElem hlt⟩
      obtain ⟨x, hx⟩ : ∃ x, ns[pos]? = some x := ⟨_, List.getElem?_eq_getElem (by omega)⟩
      have hnx : ∀ ty, (Instr.next (.pointer (some ⟨g, 0, none⟩)) true ty).run Tryz.prog wr = .ok (.tuple #[.bool true, .int .i64 pos, .int .i32 (110 : Nat)]) (putO wr g (.stringIter row (pos + 1))) := fun ty => next_in wr g row pos 110 ty hI.out (by rw [hRW.out]; exact hlt) (hD.out pos (by rw [hRW.out]; exact hlt))
      have I1 := Aside0.mk (putO_at wr g (.stringIter row (pos + 1)) _ hI.out)
      have R1 := Aside0.mk (R_putO (o := .stringIter row (pos + 1)) hI.out hR.out)
      have B1 := Aside0.mk (hB.out.trans ((putO_kp wr g (.stringIter row (pos + 1))).below (B := g) (Nat.le_of_lt (blk_lt hI.out)) (fun i hi e => by omega)))
      generalize putO wr g (.stringIter row (pos + 1)) = W1 at *
      have hcell : W1.cell? (ad.add pos) = some (.string s) := (B1.out.cell (hg ▸ World.block_lt_of_cell? _ _ (hHC.out pos s hs))).trans (hHC.out pos s hs)
      have hstep : ns.take (pos + 1) = ns.take pos ++ [x] := by rw [List.take_add_one, hx]; rfl
      have hxl : (ns.take pos).length = pos := by rw [List.length_take]; omega
      generalize ns.take pos = xs at *
      obtain ⟨Ao, co, hvo⟩ := Kd.R_slice R1.out
      subst hvo
      have HST := Aside0.mk hstep
      have HXL := Aside0.mk hxl
      clear hstep hxl
      have KN := fun W => hHN.out pos s x hs hx W
      have i0 : (0 : Int) ≤ (pos : Int) := by omega
      have i1 : (pos : Int) < (ws.length : Int) := by omega
      have HG := Aside0.mk hg
      have HX := Aside0.mk hx
      have HLT := Aside0.mk hlt
      clear hx hs hg hI hR hB hp hlt
      go_wp2_with (first
        | (go_at_call 40; ((with_reducible refine (KN _).mono ?_); rintro e W2 ⟨rfl, hb⟩; have I2 := Aside0.mk ((hb.block g (blk_lt I1.out)).trans I1.out); have R2 := Aside0.mk (Kd.R_below R1.out hb); have B2 := Aside0.mk (B1.out.trans (hb.mono (Nat.le_of_lt (blk_lt I1.out)))); clear hb))
        | ((with_reducible refine gate_builtin (b := .append) (xs := #[.tmp 41, .tmp 43]) rfl ?_); at_builtin; refine Kd.R_append (Kd.int .i64) (w0 := w) g rfl (.tmp 41) (.tmp 43) 48 3 (.int .i64 0) 8 rfl Tryz.underlying48 info_int_ rfl (by decide) (by omega) (.slice Ao xs.length co) xs x [.int .i64 x] (fun _ => True) (fun _ => False) rfl rfl rfl (fun _ hk => hk.elim) (fun _ _ => trivial) R2.out B2.out (Nat.le_of_lt (blk_lt I2.out)) (by have := HXL.out; have := HLT.out; omega) ?_; intro v3 W3 ho hb hg_ hat_; have R3 := Aside0.mk ho; have B3 := Aside0.mk hb; have I3 := Aside0.mk ((hg_.block g (blk_lt I2.out) (fun e => by obtain ⟨cs_, hcs_⟩ := Kd.R_typed R2.out g e.symm; rw [I2.out] at hcs_; cases hcs_)).trans I2.out); obtain ⟨A3, c3, hv3⟩ := Kd.R_slice ho; subst hv3; clear ho hb hg_ hat_))
      go_roundw
      case rel => exact ⟨pos + 1, rfl, by have := HLT.out; omega, I3, ⟨by have q := R3.out; rw [List.length_append] at q; rw [HST.out]; exact q⟩, B3⟩
      case measure =>
        have hm2 : W3.iterPos g = pos + 1 := by unfold World.iterPos; rw [I3.out]
        rw [hm2, HM.out]
        have := HLT.out
        omega
    · have hnx : ∀ ty, (Instr.next (.pointer (some ⟨g, 0, none⟩)) true ty).run Tryz.prog wr = .ok (.tuple #[.bool false]) wr := fun ty => next_over wr g row pos ty hI.out (by rw [hRW.out]; exact hlt)
      have he : ns.take pos = ns := List.take_of_length_le (by omega)
      rw [he] at hR
      obtain ⟨Ao, co, hvo⟩ := Kd.R_slice hR.out
      subst hvo
      go_wp2
      go_ret3
      have HG := Aside0.mk hg
      exact ⟨_, rfl, by rw [HG.out]; exact hR.out, by rw [HG.out]; exact hB.out⟩
set_option maxRecDepth 100000 in
theorem split_bad (s : ByteArray) (HN : ∀ W, Calls Tryz.prog 40 #[.string s] W fun e w' => e = .returned (.tuple #[.int .i64 0, .bool false]) ∧ Below W.heap.size W w')
    (ad : Addr) (c : Nat) (w : World) (hc : w.cell? ad = some (.string s)) :
    Calls Tryz.prog 22 #[.slice (some ad) 1 c, .string ⟨#[110]⟩] w fun e w' => e = .returned (.tuple #[.slice none 0 0, .slice none 0 0, .bool false]) ∧ Below w.heap.size w w' := by
  have hcell : (putO (w.iter ⟨#[110]⟩ 0) w.heap.size (.stringIter ⟨#[110]⟩ 1)).cell? ad = some (.string s) :=
    (((b_al w (.stringIter ⟨#[110]⟩ 0)).trans ((putO_kp (w.iter ⟨#[110]⟩ 0) w.heap.size (.stringIter ⟨#[110]⟩ 1)).below (B := w.heap.size) (b_al w _).size (fun i hi e => by omega))).cell (World.block_lt_of_cell? _ _ hc)).trans hc
  have B1 := Aside0.mk ((b_al w (.stringIter ⟨#[110]⟩ 0)).trans ((putO_kp (w.iter ⟨#[110]⟩ 0) w.heap.size (.stringIter ⟨#[110]⟩ 1)).below (B := w.heap.size) (b_al w _).size (fun i hi e => by omega)))
  have hnx : ∀ ty, (Instr.next (.pointer (some ⟨w.heap.size, 0, none⟩)) true ty).run Tryz.prog (w.iter ⟨#[110]⟩ 0) = .ok (.tuple #[.bool true, .int .i64 (0 : Nat), .int .i32 (110 : Nat)]) (putO (w.iter ⟨#[110]⟩ 0) w.heap.size (.stringIter ⟨#[110]⟩ (0 + 1))) := fun ty => next_in (w.iter ⟨#[110]⟩ 0) w.heap.size ⟨#[110]⟩ 0 110 ty (World.iter_heap w _ 0) (by decide) (by rfl)
  change Aside0 (Below w.heap.size w (putO (w.iter ⟨#[110]⟩ 0) w.heap.size (.stringIter ⟨#[110]⟩ 1))) at B1
  have HX := Aside0.mk hnx
  clear hnx hc
  go_enter Tryz.func22, Tryz.ntmps22
  go_wp2
  go_loopw [4, 5] (fun v v5 w' => w' = w.iter ⟨#[110]⟩ 0) (fun _ _ _ => 0)
  case atStart => rfl
  case round =>
    subst hrel
    have hnx := HX.out
    generalize putO (w.iter ⟨#[110]⟩ 0) w.heap.size (.stringIter ⟨#[110]⟩ (0 + 1)) = W1 at *
    go_wp2_with (go_at_call 40; ((with_reducible refine (HN _).mono ?_); rintro e W2 ⟨rfl, hb⟩))
    go_ret3
    exact ⟨rfl, B1.out.trans (hb.mono B1.out.size)⟩
end Go.Proofs.YtoamchhmehpgoaaGreatDoor.PSJ
