/- A part of the proof, without conditions of its own. -/
import Derived.Test.YtgcgglmmfgmaoaaGreatKp2
import Derived.Deep.Cut
import Derived.Deep.CutRange
set_option linter.unusedVariables false
set_option linter.unusedSimpArgs false
set_option maxHeartbeats 16000000
set_option maxRecDepth 100000
section
namespace Go.Proofs.YtgcgglmmfgmaoaaGreat.PK
open Go Go.RowKit Go.Proofs.YtgcgglmmfgmaoaaGreatW.PrintWords Go.Proofs.YtgcgglmmfgmaoaaGreatW.PrintLast Go.Proofs.YtgcgglmmfgmaoaaGreatW.PrintMore
attribute [local go_sem] max2_int min2_int max_two min_two
theorem range2 {β : Type} (b : β) (f : Nat → β → Sem (ForInStep β)) : forIn [:2] b f = forIn [0, 1] b f := by
 rw [Std.Legacy.Range.forIn_eq_forIn_range']
 rfl
theorem eq_ballot (a b c d : Int) (w : World) : (Op.equal 228 (.agg #[.int .i64 a, .int .i64 b]) (.agg #[.int .i64 c, .int .i64 d])).run Tryz.prog w = .ok (a == c && b == d) w := by
 have p0 : ∀ x y : Int, (part 3 #[.int .i64 x, .int .i64 y] (0 * 1)).run Tryz.prog w = .ok (.int .i64 x) w := fun x y => by kernel_rfl
 have p1 : ∀ x y : Int, (part 3 #[.int .i64 x, .int .i64 y] (1 * 1)).run Tryz.prog w = .ok (.int .i64 y) w := fun x y => by kernel_rfl
 have e0 : ∀ x y : Int, (Op.equalIn 9999 3 (.int .i64 x) (.int .i64 y)).run Tryz.prog w = .ok (x == y) w := fun x y => run_equalIn_int w 9998 3 .i64 .i64 x y Tryz.underlying3
 have s0 : (sizeOf 3).run Tryz.prog w = .ok 1 w := by kernel_rfl
 show (Op.equalIn 10000 _ _ _).run _ _ = _
 rw [Op.equalIn]
 simp only [Sem.run_bind, run_underlying (show Tryz.prog.underlying 228 = some (.array 2 3) from Tryz.underlying228), Result.andThen_ok, s0, range2, List.forIn_cons, List.forIn_nil, p0, p1, e0]
 by_cases h1 : a = c <;> by_cases h2 : b = d <;> simp [Sem.run_bind, p0, p1, e0, Sem.run_pure, h1, h2]
theorem chk_ballot (e : Bool) (a b : Int) (w : World) : (Instr.checkKey e 10000 228 (.agg #[.int .i64 a, .int .i64 b])).run Tryz.prog w = .ok () w := by
 kernel_rfl
abbrev VM := List ((Int × Int) × Int)
def vmE : VM → Nat → List MapEntry
 | [], _ => []
 | x :: r, i => ⟨.agg #[.int .i64 x.1.1, .int .i64 x.1.2], .int .i64 x.2, i⟩ :: vmE r (i + 1)
def vmGet : VM → Int × Int → Int
 | [], _ => 0
 | x :: r, k => if x.1 = k then x.2 else vmGet r k
def vmIdx : VM → Int × Int → Nat → Option (Nat × Int)
 | [], _, _ => none
 | x :: r, k, i => if x.1 = k then some (i, x.2) else vmIdx r k (i + 1)
theorem vm_find (M : VM) (k : Int × Int) (i j : Nat) (w : World) : (Instr.findAsking 228 (.agg #[.int .i64 k.1, .int .i64 k.2]) (vmE M j) i).run Tryz.prog w = .ok ((vmIdx M k i).map fun p => (p.1, .int .i64 p.2)) w := by
 induction M generalizing i j with
 | nil => rfl
 | cons x r ih =>
  rw [vmE, Instr.findAsking, vmIdx]
  simp only [Sem.run_bind, eq_ballot, Result.andThen_ok]
  by_cases h : x.1 = k
  ·rw [if_pos h]; subst h; simp [Sem.run_pure]
  ·rw [if_neg h]
   have hb : (k.1 == x.1.1 && k.2 == x.1.2) = false := by
    cases h1 : (k.1 == x.1.1) <;> cases h2 : (k.2 == x.1.2) <;> simp
    exact h (Prod.ext (by simpa using h1 : k.1 = x.1.1).symm (by simpa using h2 : k.2 = x.1.2).symm)
   rw [hb]
   simp only [Bool.false_eq_true, if_false]
   exact ih (i + 1) (j + 1)
theorem vm_key (M : VM) (k : Int × Int) (j : Nat) (w : World) : (Instr.findKey 228 (.agg #[.int .i64 k.1, .int .i64 k.2]) (vmE M j)).run Tryz.prog w = .ok ((vmIdx M k 0).map fun p => (p.1, .int .i64 p.2)) w := by
 unfold Instr.findKey
 simp only [Sem.run_bind, run_underlying (show Tryz.prog.underlying 228 = some (.array 2 3) from Tryz.underlying228), Result.andThen_ok]
 cases M with
 | nil => rfl
 | cons x r =>
  rw [show Instr.findNow (.array 2 3) (.agg #[.int .i64 k.1, .int .i64 k.2]) (vmE (x :: r) j) 0 = none from rfl]
  exact vm_find (x :: r) k 0 j w
theorem vmIdx_get (M : VM) (k : Int × Int) (i : Nat) : ((vmIdx M k i).map (·.2)).getD 0 = vmGet M k := by
 induction M generalizing i with
 | nil => rfl
 | cons x r ih =>
  rw [vmIdx, vmGet]
  split
  ·rfl
  ·exact ih (i + 1)
theorem und_map : Tryz.prog.underlying 225 = some (.map 228 3) := Tryz.underlying225
theorem vm_lookup (M : VM) (mb cl : Nat) (a b : Int) (w : World) (h : w.heap[mb]? = some (.map (vmE M 0).toArray cl)) :
  (Instr.lookup 225 (.map (some mb)) (.agg #[.int .i64 a, .int .i64 b]) false).run Tryz.prog w = .ok (.int .i64 (vmGet M (a, b))) w := by
 have hz : (zeroValue 3).run Tryz.prog w = .ok (.int .i64 0) w := by kernel_rfl
 have hk := vm_key M (a, b) 0 w
 have hi := vmIdx_get M (a, b) 0
 have hg : (getObj mb).run Tryz.prog w = .ok (.map (vmE M 0).toArray cl) w := by simp [getObj, Sem.run, h]
 unfold Instr.lookup
 simp only [Sem.run_bind, run_underlying und_map, Result.andThen_ok, hg, Sem.run_pure, chk_ballot]
 rw [hk]
 cases hv : vmIdx M (a, b) 0 with
 | none => rw [hv] at hi; simp only [Option.map_none, Option.getD_none] at hi; simp only [Option.map_none, Sem.run_bind, Result.andThen_ok, hz, Sem.run_pure, Bool.false_eq_true, if_false]; rw [← hi]
 | some p => rw [hv] at hi; simp only [Option.map_some, Option.getD_some] at hi; simp only [Option.map_some, Sem.run_bind, Result.andThen_ok, Sem.run_pure, Bool.false_eq_true, if_false]; rw [← hi]
theorem vmIdx_lt (M : VM) (k : Int × Int) (j i : Nat) (v : Int) (h : vmIdx M k j = some (i, v)) : j ≤ i ∧ i < j + M.length := by
 induction M generalizing j with
 | nil => simp [vmIdx] at h
 | cons x r ih =>
  rw [vmIdx] at h
  split at h
  ·simp at h; simp; omega
  ·have := ih (j + 1) h
   simp; omega
theorem vmE_len (M : VM) (i : Nat) : (vmE M i).length = M.length := by
 induction M generalizing i with
 | nil => rfl
 | cons x r ih => simp [vmE, ih]
theorem vmE_at (M : VM) (i j : Nat) (x : (Int × Int) × Int) (h : M[j]? = some x) : (vmE M i)[j]? = some ⟨.agg #[.int .i64 x.1.1, .int .i64 x.1.2], .int .i64 x.2, i + j⟩ := by
 induction M generalizing i j with
 | nil => simp at h
 | cons y r ih =>
  match j with
  | 0 => obtain rfl : y = x := by simpa using h
         rfl
  | j + 1 =>
   have := ih (i + 1) j (by simpa using h)
   rw [vmE, List.getElem?_cons_succ, this]
   simp; omega
theorem vmIdx_at (M : VM) (k : Int × Int) (j i : Nat) (v : Int) (h : vmIdx M k j = some (i, v)) : M[i - j]? = some (k, v) := by
 induction M generalizing j with
 | nil => simp [vmIdx] at h
 | cons x r ih =>
  rw [vmIdx] at h
  split at h
  ·rename_i hk
   simp at h
   obtain ⟨rfl, rfl⟩ := h
   subst hk
   simp
  ·have h1 := vmIdx_lt r k (j + 1) i v h
   have := ih (j + 1) h
   rw [show i - j = (i - (j + 1)) + 1 by omega]
   simpa using this
theorem vm_set_get (M : VM) (k k' : Int × Int) (j i : Nat) (v n : Int) (h : vmIdx M k j = some (i, v)) : vmGet (M.set (i - j) (k, n)) k' = if k' = k then n else vmGet M k' := by
 induction M generalizing j with
 | nil => simp [vmIdx] at h
 | cons x r ih =>
  rw [vmIdx] at h
  split at h
  ·rename_i hk
   simp at h
   obtain ⟨rfl, _⟩ := h
   subst hk
   rw [Nat.sub_self, List.set_cons_zero, vmGet, vmGet]
   simp only
   by_cases e : x.1 = k'
   ·rw [if_pos e, if_pos e.symm]
   ·rw [if_neg e, if_neg (fun h => e h.symm), if_neg e]
  ·rename_i hk
   have h1 := vmIdx_lt r k (j + 1) i v h
   have := ih (j + 1) h
   rw [show i - j = (i - (j + 1)) + 1 by omega, List.set_cons_succ, vmGet, this, vmGet]
   by_cases e : x.1 = k'
   ·rw [if_pos e, if_neg (by rintro rfl; exact hk e), if_pos e]
   ·rw [if_neg e, if_neg e]
theorem vmE_set (M : VM) (i j : Nat) (k : Int × Int) (n : Int) (h : (M[j]?).map (·.1) = some k) : (vmE (M.set j (k, n)) i) = (vmE M i).modify j fun e => { e with val := .int .i64 n } := by
 induction M generalizing i j with
 | nil => simp at h
 | cons x r ih =>
  match j with
  | 0 =>
   obtain rfl : x.1 = k := by simpa using h
   simp [vmE]
  | j + 1 =>
   rw [List.set_cons_succ, vmE, ih (i + 1) j (by simpa using h), vmE, List.modify_succ_cons]
theorem vm_snoc_idx (M : VM) (k : Int × Int) (j : Nat) (v : Int) (h : vmIdx M k j = none) : vmIdx (M ++ [(k, v)]) k j = some (j + M.length, v) := by
 induction M generalizing j with
 | nil => simp [vmIdx]
 | cons x r ih =>
  rw [vmIdx] at h
  split at h
  ·simp at h
  ·rename_i hk
   rw [List.cons_append, vmIdx, if_neg hk, ih (j + 1) h]
   simp; omega
theorem vm_snoc_get (M : VM) (k k' : Int × Int) (j : Nat) (h : vmIdx M k j = none) : vmGet (M ++ [(k, 0)]) k' = vmGet M k' := by
 induction M generalizing j with
 | nil => simp [vmGet]
 | cons x r ih =>
  rw [vmIdx] at h
  split at h
  ·simp at h
  ·rw [List.cons_append, vmGet, vmGet, ih (j + 1) h]
theorem vmE_snoc (M : VM) (i : Nat) (x : (Int × Int) × Int) : vmE (M ++ [x]) i = vmE M i ++ [⟨.agg #[.int .i64 x.1.1, .int .i64 x.1.2], .int .i64 x.2, i + M.length⟩] := by
 induction M generalizing i with
 | nil => rfl
 | cons y r ih => rw [List.cons_append, vmE, ih, vmE]; simp; omega
theorem same_bits (a b : Int) : Instr.sameBits 10000 (.agg #[.int .i64 a, .int .i64 b]) (.agg #[.int .i64 a, .int .i64 b]) = true := by
 simp [Instr.sameBits]
abbrev vmO (M : VM) : Obj := .map (vmE M 0).toArray M.length
def World.put_ (w : World) (r : Nat) (o : Obj) : World := { w with heap := w.heap.setIfInBounds r o }
theorem run_setObj (w : World) (r : Nat) (o : Obj) (es : Array MapEntry) (cl : Nat) (h : w.heap[r]? = some (.map es cl)) : (setObj r o).run Tryz.prog w = .ok () (World.put_ w r o) := by
 simp [setObj, Sem.run, World.put_, h]
theorem put_kp (w : World) (r : Nat) (o : Obj) : Kp (fun k => k = r) w (World.put_ w r o) := ⟨rfl, rfl, rfl, by simp [World.put_], fun k _ hn => by simp [World.put_, Array.getElem?_setIfInBounds_ne (fun e => hn e.symm)]⟩
theorem put_at (w : World) (r : Nat) (o o' : Obj) (h : w.heap[r]? = some o') : (World.put_ w r o).heap[r]? = some o := by
 have := (Array.getElem?_eq_some_iff.1 h).1
 simp [World.put_, Array.getElem?_setIfInBounds_self_of_lt this]
theorem vm_entry (M : VM) (mb : Nat) (k : Int × Int) (w : World) (h : w.heap[mb]? = some (vmO M)) :
  ∃ (M2 : VM) (i : Nat), (Instr.mapEntry 225 (.map (some mb)) (.agg #[.int .i64 k.1, .int .i64 k.2])).run Tryz.prog w = .ok (.tuple #[.int .i64 (vmGet M k), .int .i64 (i : Int)]) (World.put_ w mb (vmO M2)) ∧ vmIdx M2 k 0 = some (i, vmGet M k) ∧ ∀ k', vmGet M2 k' = vmGet M k' := by
 have hz : (zeroValue 3).run Tryz.prog w = .ok (.int .i64 0) w := by kernel_rfl
 have hk := vm_key M k 0 w
 have hi := vmIdx_get M k 0
 have hg : (getObj mb).run Tryz.prog w = .ok (vmO M) w := by simp [getObj, Sem.run, h]
 cases hv : vmIdx M k 0 with
 | none =>
  rw [hv] at hi hk
  simp only [Option.map_none, Option.getD_none] at hi hk
  refine ⟨M ++ [(k, 0)], M.length, ?_, by rw [← hi]; simpa using vm_snoc_idx M k 0 0 hv, fun k' => vm_snoc_get M k k' 0 hv⟩
  unfold Instr.mapEntry
  simp only [Sem.run_bind, run_underlying und_map, Result.andThen_ok, hg, Sem.run_pure, chk_ballot, hk, hz]
  rw [run_setObj w mb _ _ _ h]
  unfold vmO
  rw [vmE_snoc]
  simp [goInt, ← hi]
 | some p =>
  obtain ⟨i, v⟩ := p
  rw [hv] at hi hk
  simp only [Option.map_some, Option.getD_some] at hi hk
  subst hi
  refine ⟨M, i, ?_, hv, fun _ => rfl⟩
  have hat := vmIdx_at M k 0 i _ hv
  have he := vmE_at M 0 i _ (by simpa using hat)
  have hm : (vmE M 0).toArray.modify i (fun e => { e with key := .agg #[.int .i64 k.1, .int .i64 k.2] }) = (vmE M 0).toArray := by
   apply Array.ext'
   simp only [Array.toList_modify]
   apply List.ext_getElem?
   intro n
   rw [List.getElem?_modify]
   by_cases hn : i = n
   ·subst hn
    rw [he]; simp
   ·simp [hn]
  unfold Instr.mapEntry
  simp only [Sem.run_bind, run_underlying und_map, Result.andThen_ok, hg, Sem.run_pure, chk_ballot, hk]
  have e1 : (vmE M 0).toArray[i]? = some ⟨.agg #[.int .i64 k.1, .int .i64 k.2], .int .i64 (vmGet M k), i⟩ := by simpa using he
  simp only [e1, Option.map_some, Option.getD_some, Instr.keyThatStays, same_bits, if_true, Sem.run_pure, Sem.run_bind, Result.andThen_ok, hm]
  rw [run_setObj w mb _ _ _ h]
  simp [goInt]
theorem vm_store (M : VM) (mb i : Nat) (k : Int × Int) (v n : Int) (w : World) (h : w.heap[mb]? = some (vmO M)) (hv : vmIdx M k 0 = some (i, v)) :
  (Instr.entryStore 225 (.map (some mb)) (.int .i64 (i : Int)) (.int .i64 n)).run Tryz.prog w = .ok () (World.put_ w mb (vmO (M.set i (k, n)))) := by
 have hg : (getObj mb).run Tryz.prog w = .ok (vmO M) w := by simp [getObj, Sem.run, h]
 have hat := vmIdx_at M k 0 i _ hv
 have hlt := vmIdx_lt M k 0 i _ hv
 have hf : (vmE M 0).toArray.findIdx? (fun e => (e.born : Int) == (i : Int)) = some i := by
  rw [List.findIdx?_toArray, List.findIdx?_eq_some_iff_getElem]
  refine ⟨by rw [vmE_len]; omega, ?_, fun j hj => ?_⟩
  ·have := vmE_at M 0 i _ (by simpa using hat)
   obtain ⟨_, e⟩ := List.getElem?_eq_some_iff.1 this
   rw [e]; simp
  ·have hj2 : j < M.length := by omega
   have := vmE_at M 0 j _ (List.getElem?_eq_getElem hj2)
   obtain ⟨_, e⟩ := List.getElem?_eq_some_iff.1 this
   rw [e]; simp; omega
 unfold Instr.entryStore
 simp only [Sem.run_bind, Result.andThen_ok, hg, asInt, asIntOf, Sem.run_pure, hf]
 rw [run_setObj w mb _ _ _ h]
 unfold vmO
 rw [vmE_set M 0 i k n (by simpa using congrArg (Option.map (·.1)) hat)]
 simp
end Go.Proofs.YtgcgglmmfgmaoaaGreat.PK
end
section
namespace Go.Proofs.YtgcgglmmfgmaoaaGreat.PK
open Go Go.RowKit Go.Proofs.YtgcgglmmfgmaoaaGreatW.PrintWords Go.Proofs.YtgcgglmmfgmaoaaGreatW.PrintLast Go.Proofs.YtgcgglmmfgmaoaaGreatW.PrintMore
attribute [local go_sem] max2_int min2_int max_two min_two
def cntL (l : List S172) (k : Int × Int) : Nat := (l.filter fun v => v.f0 && decide ((v.f1.f0, v.f1.f1) = k)).length
theorem cntL_le (l : List S172) (k : Int × Int) : cntL l k ≤ l.length := List.length_filter_le _ _
def zItem : S55 := ⟨0, 0⟩
def mostL (l : List S172) : S55 := ((l.find? fun v => v.f0 && !(v.f1.f0 == 0 && v.f1.f1 == 0) && decide ((l.length : Int) < 2 * (cntL l (v.f1.f0, v.f1.f1) : Int))).map (·.f1)).getD zItem
theorem info_ballot : (Tryz.prog.info? 228).map (·.size) = some 2 := by kernel_rfl
theorem vote_of (a b : Int) (w : World) : Calls Tryz.prog 132 #[.agg #[.int .i64 a, .int .i64 b]] w fun e w' => e = .returned (.agg #[.int .i64 a, .int .i64 b]) ∧ Below w.heap.size w w' := by
 go_enter Tryz.func132, Tryz.ntmps132
 go_wp2
 have hB := blk_new (w.alloc (.cells #[.int .i64 a, .int .i64 b] 55)) (.cells #[.int .i64 a, .int .i64 b] 228)
 rw [← size_al_] at hB
 exact bodyPost_ret (v := .agg #[.int .i64 a, .int .i64 b]) (results_cell_row Tryz.results132 _ _ _ _ _ _ _ rfl hB Tryz.underlying228 rfl info_ballot) rfl ⟨rfl, b_tr (b_al w _) (b_al _ _)⟩
def SV_ (W : World) (mb : Nat) (M : VM) (w' : World) : Prop := Kp (fun k => k = mb) W w' ∧ ∃ M', w'.heap[mb]? = some (vmO M') ∧ ∀ k, vmGet M' k = vmGet M k
theorem SV_.below {W : World} {mb : Nat} {M : VM} {w w' : World} (h : SV_ W mb M w) (hb : Below w.heap.size w w') : SV_ W mb M w' := ⟨h.1.then_ hb, by obtain ⟨M', h1, h2⟩ := h.2; exact ⟨M', blk_below h1 hb, h2⟩⟩
theorem cntL_snoc (l : List S172) (v : S172) (k : Int × Int) : cntL (l ++ [v]) k = cntL l k + if v.f0 = true ∧ (v.f1.f0, v.f1.f1) = k then 1 else 0 := by
 unfold cntL
 rw [List.filter_append, List.length_append]
 congr 1
 by_cases h : v.f0 = true ∧ (v.f1.f0, v.f1.f1) = k
 ·rw [if_pos h]; simp [h.1, h.2]
 ·rw [if_neg h, List.filter_cons]
  have : (v.f0 && decide ((v.f1.f0, v.f1.f1) = k)) = false := by
   cases h0 : v.f0
   ·simp
   ·simp; exact fun e => h ⟨h0, by simpa using e⟩
  rw [this]; simp
theorem take_vote (l : List S172) (k : Nat) (h : k < l.length) : l.take (k + 1) = l.take k ++ [rd_T172 l k] := by
 rw [List.take_succ_eq_append_getElem h]; simp [rd_T172, List.getD_eq_getElem?_getD, List.getElem?_eq_getElem h]
theorem vote_counts (l : List S172) (A : Option Addr) (m : Nat) (hl : l.length ≤ 1000) (w : World) (hr : Kd.C k172 w A l.length l) :
  Calls Tryz.prog 131 #[.slice A l.length m] w fun e w' => ∃ (mb : Nat) (M : VM), e = .returned (.map (some mb)) ∧ w'.heap[mb]? = some (vmO M) ∧ (∀ k, vmGet M k = (cntL l k : Int)) ∧ Below w.heap.size w w' := by
 have HR := am hr
 have HL := am hl
 have hmm := @run_makeMap Tryz.prog
 clear hr
 go_enter Tryz.func131, Tryz.ntmps131
 go_wp2
 have HM0 := am (blk_new w (vmO []))
 have HB0 := am (b_al w (vmO []))
 go_loopw [9] (fun v w' => ∃ i : Nat, v = .int .i64 i ∧ i ≤ l.length ∧ Aside0 (∃ M : VM, w'.heap[w.heap.size]? = some (vmO M) ∧ ∀ k, vmGet M k = (cntL (l.take i) k : Int)) ∧ Aside0 (Below w.heap.size w w')) (fun v _ => l.length - (intOf v).toNat)
 case atStart => exact ⟨0, rfl, Nat.zero_le _, ⟨[], HM0.out, fun k => by simp [vmGet, cntL]⟩, HB0⟩
 case round =>
  clear HM0 HB0
  obtain ⟨i, rfl, hi, hM, hB⟩ := hrel
  by_cases hlt : i < l.length
  ·obtain ⟨M, hM1, hM2⟩ := hM.out
   have hx := take_vote l i hlt
   have hrt := at_T172 (Kd.C_below HR.out hB.out) (i : Int) (by omega) (by omega)
   obtain ⟨ad, hA, ha0, ha1, ha2⟩ := hrt
   rw [Int.toNat_natCast] at ha0 ha1 ha2
   generalize rd_T172 l (i : Int) = x at *
   have HX := am hx
   have hli := HL.out
   have HM := am hM1
   have HG := am hM2
   have hA0 := am hA
   subst hA
   clear hx hi hM1 hM2 hM
   go_upto_region 5 with (fail)
   have HV := am (blk_new wr (.cells #[.bool x.f0, .int .i64 x.f1.f0, .int .i64 x.f1.f1] 172))
   have n1 := am (blk_alloc HM.out (.cells #[.bool x.f0, .int .i64 x.f1.f0, .int .i64 x.f1.f1] 172))
   have n2 := am (b_base hB.out (b_al wr (.cells #[.bool x.f0, .int .i64 x.f1.f0, .int .i64 x.f1.f1] 172)))
   have hvb := am (blk_lt HM.out)
   clear HM hB ha0 ha1 ha2 hA0
   have HM := n1
   have hB := n2
   clear n1 n2
   generalize wr.alloc (.cells #[.bool x.f0, .int .i64 x.f1.f0, .int .i64 x.f1.f1] 172) = W2 at *
   generalize wr.heap.size = vb at *
   have vv := cells3 HV.out
   obtain ⟨x0, x1⟩ := x
   simp only at *
   cases x0 with
   | false =>
    go_wp2
    clear vv
    go_roundw
    case rel => exact ⟨i + 1, by simp, by omega, ⟨M, HM.out, fun k => by rw [HG.out, HX.out, cntL_snoc]; simp⟩, hB⟩
    case measure => simp [intOf]; omega
   | true =>
    have hvc : Aside0 (∀ w', SV_ W2 w.heap.size M w' → w'.cell? ⟨vb, 1, none⟩ = some (.int .i64 x1.f0) ∧ w'.cell? ⟨vb, 2, none⟩ = some (.int .i64 x1.f1)) := ⟨fun w' hs => by
     have := hs.1.blk HV.out (by have := hvb.out; omega)
     exact ⟨(cells3 this).2.1, (cells3 this).2.2⟩⟩
    obtain ⟨n0, hn0⟩ : ∃ n0, n0 = vmGet M (x1.f0, x1.f1) := ⟨_, rfl⟩
    have hn0e := am hn0.symm
    have hn0b := HG.out (x1.f0, x1.f1)
    rw [← hn0] at hn0b
    have hn1 : 0 ≤ n0 := by omega
    have hn2 : n0 ≤ 1000 := by have := cntL_le (l.take i) (x1.f0, x1.f1); rw [List.length_take] at this; omega
    have hwr := am (w64_q (n0 + 1) (by omega) (by omega))
    clear hn0 hn0b
    go_wp2
    refine start_ (n := 9) (S := SV_ W2 w.heap.size M) (ds := [8]) _ (by kernel_rfl) rfl rfl ?st0 (fun hHeld => ?_)
    case st0 => exact ⟨Kp.of (below_drew (Below.refl _ _)), M, HM.out, fun _ => rfl⟩
    refine plan_ [.p 0 15, .p 1 16, .t 2 17] ?_
    refine qP (v := ?_) (a' := ?_) ?_ ?_ ?_; rotate_left; (intro w'; go_simp; try with_reducible rfl); rotate_left; (simp only [s0, s1, s2, s3, i64_w, i32_w]; rfl)
    refine qP (v := ?_) (a' := ?_) ?_ ?_ ?_; rotate_left; (intro w'; go_simp; try with_reducible rfl); rotate_left; (simp only [s0, s1, s2, s3, i64_w, i32_w]; rfl)
    refine planT (v := ?_) (a' := ?_) rfl rfl (by kernel_rfl) (fun _ _ _ h => h) hHeld (by rfl) ?_ ?_ ?_; rotate_left; (rintro w' hs; obtain ⟨c0, c1⟩ := hvc.out w' hs; go_simp; try with_reducible rfl); rotate_left; (simp only [s0, s1, s2, s3, i64_w, i32_w]; rfl)
    refine planE ?_
    refine jO 3 (some 18) (fun K hK => ?_)
    refine kC Tryz.func132 #[.agg #[.int .i64 x1.f0, .int .i64 x1.f1]] ?_
    refine (vote_of _ _ _).mono ?_
    rintro e W3 ⟨rfl, hb⟩
    refine ⟨_, rfl, ?_⟩
    refine hK.out _ _ (hHeld.below hb) (fun hHeld => ?_)
    clear hK K hb
    refine jM 18 ?_
    refine plan_ [.t 4 19, .p 5 20] ?_
    refine planT (v := ?_) (a' := ?_) rfl rfl (by kernel_rfl) (fun _ _ _ h => h) hHeld (by rfl) ?_ ?_ ?_; rotate_left; (rintro w' ⟨_, M', hm', hg'⟩; have hl := vm_lookup M' w.heap.size _ x1.f0 x1.f1 w' hm'; rw [hg', hn0e.out] at hl; go_simp; try with_reducible rfl); rotate_left; (simp only [s0, s1, s2, s3, i64_w, i32_w]; rfl)
    refine qP (v := ?_) (a' := ?_) ?_ ?_ ?_; rotate_left; (intro w'; go_simp; try with_reducible rfl); rotate_left; (simp only [s0, s1, s2, s3, i64_w, i32_w]; rfl)
    refine planE ?_
    refine jO 6 (some 21) (fun K hK => ?_)
    obtain ⟨hk3, M3, hm3, hg3⟩ := hHeld
    obtain ⟨M4, i4, hr4, hi4, hg4⟩ := vm_entry M3 w.heap.size (x1.f0, x1.f1) W3 hm3
    have k4 := hk3.trans (put_kp W3 w.heap.size (vmO M4))
    have m4 := put_at W3 w.heap.size (vmO M4) _ hm3
    rw [hg3, hn0e.out] at hr4 hi4
    refine value_ (v := .tuple #[.int .i64 n0, .int .i64 (i4 : Int)]) (w1 := World.put_ W3 w.heap.size (vmO M4)) (by rfl) rfl (by (try simp only at hr4); go_simp; try rfl) ?_
    generalize World.put_ W3 w.heap.size (vmO M4) = W4 at *
    refine hK.out _ _ ⟨k4, M4, m4, fun k' => (hg4 k').trans (hg3 k')⟩ (fun hHeld => ?_)
    clear hK K hHeld hm3 hr4
    have hHeld : SV_ W2 w.heap.size M W4 := ⟨k4, M4, m4, fun k' => (hg4 k').trans (hg3 k')⟩
    refine jM 21 ?_
    refine plan_ [.p 7 22] ?_
    refine qP (v := ?_) (a' := ?_) ?_ ?_ ?_; rotate_left; (intro w'; go_simp; try with_reducible rfl); rotate_left; (simp only [s0, s1, s2, s3, i64_w, i32_w]; rfl)
    refine planE ?_
    refine jL 8 none (fun K hK => ?_)
    have hr5 := vm_store M4 w.heap.size i4 (x1.f0, x1.f1) n0 (wrap64 (n0 + 1)) W4 m4 hi4
    refine skip_ (w1 := World.put_ W4 w.heap.size (vmO (M4.set i4 ((x1.f0, x1.f1), wrap64 (n0 + 1))))) (by rfl) rfl (by (try simp only at hr5); go_simp; try rfl) ?_
    refine hK.out _ _ ?_
    clear hK K
    refine done_ (by kernel_rfl) ?_
    rw [hwr.out]
    have K6 := k4.trans (put_kp W4 w.heap.size (vmO (M4.set i4 ((x1.f0, x1.f1), n0 + 1))))
    have HM6 := am (put_at W4 w.heap.size (vmO (M4.set i4 ((x1.f0, x1.f1), n0 + 1))) _ m4)
    have HB6 := am (hB.out.trans (K6.below hB.out.size (fun i hi e => by omega)))
    have HG6 := am (show ∀ k, vmGet (M4.set i4 ((x1.f0, x1.f1), n0 + 1)) k = if k = (x1.f0, x1.f1) then n0 + 1 else vmGet M k from fun k => by
     have h5 := vm_set_get M4 (x1.f0, x1.f1) k 0 i4 n0 (n0 + 1) hi4
     rw [Nat.sub_zero] at h5
     rw [h5, hg4, hg3])
    have HN1 := am hn2
    clear hHeld K6 k4 m4 hi4 hg4 hg3 hk3 hr5 hn2 hn1 vv
    go_wp2
    go_roundw
    case rel => exact ⟨i + 1, by simp, by omega, ⟨_, HM6.out, fun k => by
     rw [HG6.out, HX.out, cntL_snoc]
     by_cases hk : k = (x1.f0, x1.f1)
     ·subst hk
      rw [if_pos rfl, if_pos ⟨rfl, rfl⟩, ← hn0e.out, HG.out]; simp
     ·rw [if_neg hk, if_neg (fun h => hk h.2.symm), HG.out]; simp⟩, HB6⟩
    case measure => simp [intOf]; omega
  ·obtain rfl : i = l.length := by omega
   rw [List.take_length] at hM
   obtain ⟨M, hM1, hM2⟩ := hM.out
   have HZ := am (And.intro hM1 hM2)
   clear hM hM1 hM2 hi hlt
   go_wp2
   go_ret
   exact ⟨w.heap.size, M, rfl, HZ.out.1, HZ.out.2, hB.out⟩
theorem ne_ballot (a b c d : Int) (W : World) : (binOp .neq 228 (.agg #[.int .i64 a, .int .i64 b]) (.agg #[.int .i64 c, .int .i64 d])).run Tryz.prog W = .ok (.bool (!(a == c && b == d))) W := by
 show ((do pure (Value.bool (!(← Op.equal 228 (.agg #[.int .i64 a, .int .i64 b]) (.agg #[.int .i64 c, .int .i64 d]))))) : Sem Value).run Tryz.prog W = _
 simp only [Sem.run_bind, eq_ballot, Result.andThen_ok, Sem.run_pure]
theorem most_no (l : List S172) (p : S172 → Bool) (i : Nat) (x : S172) (h : (l.take i).find? p = none) (ht : l.take (i + 1) = l.take i ++ [x]) (hx : p x = false) : (l.take (i + 1)).find? p = none := by
 rw [ht, List.find?_append, h]; simp [hx]
theorem most_yes (l : List S172) (p : S172 → Bool) (i : Nat) (x : S172) (h : (l.take i).find? p = none) (ht : l.take (i + 1) = l.take i ++ [x]) (hx : p x = true) : l.find? p = some x := by
 rw [← List.take_append_drop (i + 1) l, List.find?_append, ht, List.find?_append, h]; simp [hx]
theorem vote_Most (l : List S172) (A : Option Addr) (m : Nat) (hl : l.length ≤ 1000) (w : World) (hr : Kd.C k172 w A l.length l) :
  Calls Tryz.prog 108 #[.slice A l.length m] w fun e w' => e = .returned (.agg #[.int .i64 (mostL l).f0, .int .i64 (mostL l).f1]) ∧ Below w.heap.size w w' := by
 have HR := am hr
 have HL := am hl
 have KC := am (fun W (hb : Below w.heap.size w W) => vote_counts l A m hl W (Kd.C_below hr hb))
 obtain ⟨p, hp⟩ : ∃ p : S172 → Bool, p = fun v => v.f0 && !(v.f1.f0 == 0 && v.f1.f1 == 0) && decide ((l.length : Int) < 2 * (cntL l (v.f1.f0, v.f1.f1) : Int)) := ⟨_, rfl⟩
 have HMo : Aside0 (mostL l = ((l.find? p).map (·.f1)).getD zItem) := ⟨by rw [hp]; rfl⟩
 have HP := am hp
 generalize mostL l = res at *
 clear hr hp
 go_enter Tryz.func108, Tryz.ntmps108
 have HB0 := am (b_al w (.cells #[.int .i64 0, .int .i64 0] 55))
 have HR0 := am (blk_new w (.cells #[.int .i64 0, .int .i64 0] 55))
 go_upto_region 2 with (go_at_call 131; refine (KC.out _ HB0.out).mono ?_; rintro e W1 ⟨mb, M, rfl, hm, hg, hb⟩; have HM := am hm; have HG := am hg; have n1 := am (b_tr HB0.out hb); have n2 := am (blk_below HR0.out hb); clear hm hg hb HB0 HR0; have HB0 := n1; have HR0 := n2; clear n1 n2)
 clear KC
 go_wp2
 go_loopw [12] (fun v w' => ∃ i : Nat, v = .int .i64 i ∧ i ≤ l.length ∧ Aside0 ((l.take i).find? p = none) ∧ Aside0 (w'.heap[mb]? = some (vmO M)) ∧ Aside0 (w'.heap[w.heap.size]? = some (.cells #[.int .i64 0, .int .i64 0] 55 (0, 0))) ∧ Aside0 (Below w.heap.size w w')) (fun v _ => l.length - (intOf v).toNat)
 case atStart => exact ⟨0, rfl, Nat.zero_le _, ⟨by simp⟩, HM, HR0, HB0⟩
 case round =>
  clear HM HR0 HB0
  obtain ⟨i, rfl, hi, hF, hM, hR, hB⟩ := hrel
  by_cases hlt : i < l.length
  ·have hx := take_vote l i hlt
   have hrt := at_T172 (Kd.C_below HR.out hB.out) (i : Int) (by omega) (by omega)
   obtain ⟨ad, hA, ha0, ha1, ha2⟩ := hrt
   rw [Int.toNat_natCast] at ha0 ha1 ha2
   generalize rd_T172 l (i : Int) = x at *
   have HX := am hx
   have hli := HL.out
   have hA0 := am hA
   subst hA
   obtain ⟨x0, x1⟩ := x
   simp only at ha0 ha1 ha2
   have HV := am (cells3 (blk_new wr (.cells #[.bool x0, .int .i64 x1.f0, .int .i64 x1.f1] 172)))
   have HV0 := am (blk_new wr (.cells #[.bool x0, .int .i64 x1.f0, .int .i64 x1.f1] 172))
   clear hx hi
   go_upto_region 5 with (fail)
   have n1 := am (blk_alloc hM.out (.cells #[.bool x0, .int .i64 x1.f0, .int .i64 x1.f1] 172))
   have n2 := am (b_base hB.out (b_al wr (.cells #[.bool x0, .int .i64 x1.f0, .int .i64 x1.f1] 172)))
   have n3 := am (blk_alloc hR.out (.cells #[.bool x0, .int .i64 x1.f0, .int .i64 x1.f1] 172))
   have hvb := am (blk_lt hR.out)
   clear hM hB hR ha0 ha1 ha2 hA0 HV
   generalize wr.alloc (.cells #[.bool x0, .int .i64 x1.f0, .int .i64 x1.f1] 172) = W2 at *
   generalize wr.heap.size = vb at *
   have vv := cells3 HV0.out
   go_upto_region 6 with (go_at_call 132; refine (vote_of x1.f0 x1.f1 _).mono ?_; rintro e W3 ⟨rfl, hb⟩; have m1 := am (blk_below n1.out hb); have m2 := am (b_base n2.out hb); have m3 := am (blk_below n3.out hb); have m4 := am (blk_below HV0.out hb); clear n1 n2 n3 HV0 hb vv)
   have BB := am (blk_new W3 (.cells #[.int .i64 x1.f0, .int .i64 x1.f1] 228))
   have n1 := am (blk_alloc m1.out (.cells #[.int .i64 x1.f0, .int .i64 x1.f1] 228))
   have n2 := am (b_base m2.out (b_al W3 (.cells #[.int .i64 x1.f0, .int .i64 x1.f1] 228)))
   have n3 := am (blk_alloc m3.out (.cells #[.int .i64 x1.f0, .int .i64 x1.f1] 228))
   have n4 := am (blk_alloc m4.out (.cells #[.int .i64 x1.f0, .int .i64 x1.f1] 228))
   clear m1 m2 m3 m4
   generalize W3.alloc (.cells #[.int .i64 x1.f0, .int .i64 x1.f1] 228) = W4 at *
   generalize W3.heap.size = bb at *
   go_upto_region 7 with (go_at_call 132; refine (vote_of 0 0 _).mono ?_; rintro e W5 ⟨rfl, hb⟩; have m1 := am (blk_below n1.out hb); have m2 := am (b_base n2.out hb); have m3 := am (blk_below n3.out hb); have m4 := am (blk_below n4.out hb); have m5 := am (blk_below BB.out hb); clear n1 n2 n3 n4 BB hb)
   have NB := am (blk_new W5 (.cells #[.int .i64 0, .int .i64 0] 228))
   have hM := am (blk_alloc m1.out (.cells #[.int .i64 0, .int .i64 0] 228))
   have hB := am (b_base m2.out (b_al W5 (.cells #[.int .i64 0, .int .i64 0] 228)))
   have hR := am (blk_alloc m3.out (.cells #[.int .i64 0, .int .i64 0] 228))
   have HV := am (blk_alloc m4.out (.cells #[.int .i64 0, .int .i64 0] 228))
   have BB := am (blk_alloc m5.out (.cells #[.int .i64 0, .int .i64 0] 228))
   clear m1 m2 m3 m4 m5
   generalize W5.alloc (.cells #[.int .i64 0, .int .i64 0] 228) = W6 at *
   generalize W5.heap.size = nb at *
   have vv := cells3 HV.out
   have bv := cells2 BB.out
   have nv := cells2 NB.out
   have hlk := vm_lookup M mb _ x1.f0 x1.f1 W6 hM.out
   rw [HG.out] at hlk
   have hcn := cntL_le l (x1.f0, x1.f1)
   have hne := ne_ballot x1.f0 x1.f1 0 0
   have HPX : Aside0 (p ⟨x0, x1⟩ = (x0 && !(x1.f0 == 0 && x1.f1 == 0) && decide ((l.length : Int) < 2 * (cntL l (x1.f0, x1.f1) : Int)))) := ⟨by rw [HP.out]⟩
   generalize cntL l (x1.f0, x1.f1) = cn at *
   generalize (x1.f0 == 0 && x1.f1 == 0) = z at *
   have hcn2 : cn ≤ 1000 := Nat.le_trans hcn hli
   clear hcn
   by_cases hd : (l.length : Int) < 2 * (cn : Int)
   ·have hd1 := decide_eq_true hd
    have hd2 := am hd1
    clear hd
    cases x0 <;> cases z
    case true.false =>
     go_wp2_with ((with_reducible refine gate_ (.store 55 (.tmp 2) (.tmp 38)) rfl ?_); refine store_part rfl 55 (.tmp 2) (.tmp 38) rfl (w.heap.size) 0 55 #[.int .i64 x1.f0, .int .i64 x1.f1] [.int .i64 0, .int .i64 0] rfl rfl hR.out (by simp) info_item2 (by simp [Value.oneCell']) ?_; intro W9 HG9_ KG_; have HG9 := am HG9_; have KG := am KG_; clear HG9_ KG_)
     refine bodyPost_ret (v := .agg #[.int .i64 x1.f0, .int .i64 x1.f1]) (results_cell_row Tryz.results108 _ W9 _ _ _ _ _ rfl HG9.out Tryz.underlying55 rfl info_item2) rfl ⟨?_, below_kp hB.out KG.out (Nat.le_refl _) hB.out.size⟩
     have hf := most_yes l p i _ hF.out HX.out (by rw [HPX.out, hd2.out]; simp)
     have : res = x1 := by rw [HMo.out, hf]; rfl
     rw [this]
    all_goals
     go_wp2
     clear vv bv nv hlk hd1
     go_roundw
     case rel => exact ⟨i + 1, by simp, by omega, ⟨most_no l p i _ hF.out HX.out (by rw [HPX.out, hd2.out]; simp)⟩, hM, hR, hB⟩
     case measure => simp [intOf]; omega
   ·have hd1 := decide_eq_false hd
    have hd2 := am hd1
    clear hd
    cases x0 <;> cases z
    all_goals
     go_wp2
     clear vv bv nv hlk hd1
     go_roundw
     case rel => exact ⟨i + 1, by simp, by omega, ⟨most_no l p i _ hF.out HX.out (by rw [HPX.out, hd2.out]; simp)⟩, hM, hR, hB⟩
     case measure => simp [intOf]; omega
  ·obtain rfl : i = l.length := by omega
   rw [List.take_length] at hF
   clear hi hlt
   go_wp2_with ((with_reducible refine gate_ (.store 55 (.tmp 2) (.tmp 40)) rfl ?_); refine store_part rfl 55 (.tmp 2) (.tmp 40) rfl (w.heap.size) 0 55 #[.int .i64 0, .int .i64 0] [.int .i64 0, .int .i64 0] rfl rfl hR.out (by simp) info_item2 (by simp [Value.oneCell']) ?_; intro W9 HG9_ KG_; have HG9 := am HG9_; have KG := am KG_; clear HG9_ KG_)
   refine bodyPost_ret (v := .agg #[.int .i64 0, .int .i64 0]) (results_cell_row Tryz.results108 _ W9 _ _ _ _ _ rfl HG9.out Tryz.underlying55 rfl info_item2) rfl ⟨?_, below_kp hB.out KG.out (Nat.le_refl _) hB.out.size⟩
   have : res = zItem := by rw [HMo.out, hF.out]; rfl
   rw [this]; rfl
end Go.Proofs.YtgcgglmmfgmaoaaGreat.PK
end
section
namespace Go.Proofs.YtgcgglmmfgmaoaaGreat.PK
open Go Go.RowKit Go.Proofs.YtgcgglmmfgmaoaaGreatW.PrintWords Go.Proofs.YtgcgglmmfgmaoaaGreatW.PrintLast Go.Proofs.YtgcgglmmfgmaoaaGreatW.PrintMore
attribute [local go_sem] max2_int min2_int max_two min_two
structure Nd where
 st : Int
 tm : Int
 was : Int
 ck : Int
 qs : List Qr
 got : List S55
 log : List S57
structure NdA where
 qb : Nat
 gv : Value
 lv : Value
abbrev Nz := Nd × NdA
def zNz : Nz := (⟨0, 0, 0, 0, [], [], []⟩, ⟨0, .slice none 0 0, .slice none 0 0⟩)
def gz (l : List Nz) (i : Nat) : Nz := l.getD i zNz
theorem gz_cons (x : Nz) (r : List Nz) (i : Nat) : gz (x :: r) (i + 1) = gz r i := rfl
theorem gz_zero (x : Nz) (r : List Nz) : gz (x :: r) 0 = x := rfl
theorem gz_at {l : List Nz} {i : Nat} (h : i < l.length) : gz l i = l[i] := by unfold gz; rw [List.getD_eq_getElem?_getD, List.getElem?_eq_getElem h]; rfl
theorem gz_set {l : List Nz} {i : Nat} (z : Nz) (h : i < l.length) : gz (l.set i z) i = z := by rw [gz_at (by simpa using h), List.getElem_set_self]
def Nd.cs (Q : Nat) (x : Nd) (y : NdA) : List Value := [.int .i64 x.st, .int .i64 x.tm, .int .i64 x.was, .int .i64 x.ck, .slice (some ⟨y.qb, 0, none⟩) Q Q, y.gv, y.lv]
def ndsV (Q : Nat) : List Nz → List Value
 | [] => []
 | x :: r => x.1.cs Q x.2 ++ ndsV Q r
theorem ndsV_len (Q : Nat) : ∀ l : List Nz, (ndsV Q l).length = l.length * 7
 | [] => rfl
 | x :: r => by rw [ndsV, List.length_append, ndsV_len Q r, List.length_cons]; simp [Nd.cs]; omega
theorem ndsV_at (Q : Nat) : ∀ (l : List Nz) (i j : Nat), i < l.length → j < 7 → (ndsV Q l)[i * 7 + j]? = ((gz l i).1.cs Q (gz l i).2)[j]?
 | [], i, j, h, _ => by simp at h
 | x :: r, 0, j, _, hj => by
  rw [ndsV, List.getElem?_append_left (by simp [Nd.cs]; omega), Nat.zero_mul, Nat.zero_add]; rfl
 | x :: r, i + 1, j, h, hj => by
  rw [ndsV, List.getElem?_append_right (by simp [Nd.cs]; omega)]
  have := ndsV_at Q r i j (by simpa using h) hj
  rw [show (i + 1) * 7 + j - (x.1.cs Q x.2).length = i * 7 + j by simp [Nd.cs]; omega, this, gz_cons]
theorem ndsV_set (Q : Nat) : ∀ (l : List Nz) (i j : Nat) (v : Value) (z : Nz), i < l.length → j < 7 → z.1.cs Q z.2 = ((gz l i).1.cs Q (gz l i).2).set j v → (ndsV Q l).set (i * 7 + j) v = ndsV Q (l.set i z)
 | [], i, j, v, z, h, _, _ => by simp at h
 | x :: r, 0, j, v, z, _, hj, hz => by
  rw [ndsV, List.set_append_left _ _ (by simp [Nd.cs]; omega), List.set_cons_zero, ndsV]
  rw [hz, gz_zero, Nat.zero_mul, Nat.zero_add]
 | x :: r, i + 1, j, v, z, h, hj, hz => by
  rw [ndsV, List.set_append_right _ _ (by simp [Nd.cs]; omega), List.set_cons_succ, ndsV]
  rw [show (i + 1) * 7 + j - (x.1.cs Q x.2).length = i * 7 + j by simp [Nd.cs]; omega, ndsV_set Q r i j v z (by simpa using h) hj (by rw [hz, gz_cons])]
def qsV : List Qr → List Value
 | [] => []
 | q :: r => q.cs ++ qsV r
def AllQ (l : List Qr) : Prop := ∀ q ∈ l, q.OK
theorem qsV_len : ∀ l : List Qr, AllQ l → (qsV l).length = l.length * 5
 | [], _ => rfl
 | q :: r, h => by rw [qsV, List.length_append, qsV_len r (fun x hx => h x (by simp [hx])), q.len (h q (by simp)), List.length_cons]; omega
theorem qsV_over : ∀ (l : List Qr) (s : Nat), AllQ l → s < l.length → overAt (qsV l) (s * 5) (l.getD s zQr).cs = qsV l
 | [], s, _, h => by simp at h
 | q :: r, 0, ha, _ => by
  unfold overAt
  have := q.len (ha q (by simp))
  simp [qsV]
 | q :: r, s + 1, ha, h => by
  have hq := q.len (ha q (by simp))
  have := qsV_over r s (fun x hx => ha x (by simp [hx])) (by simpa using h)
  rw [qsV]
  unfold overAt at this ⊢
  rw [show (s + 1) * 5 = q.cs.length + s * 5 by omega, List.take_length_add_append, Nat.add_assoc, List.drop_length_add_append]
  simp only [List.getD_cons_succ]
  simp only [List.append_assoc] at this ⊢
  rw [this]
theorem qsV_put : ∀ (l : List Qr) (s : Nat) (q' : Qr), AllQ l → q'.OK → s < l.length → overAt (qsV l) (s * 5) q'.cs = qsV (l.set s q')
 | [], s, _, _, _, h => by simp at h
 | q :: r, 0, q', ha, hq', _ => by
  unfold overAt
  have h1 := q.len (ha q (by simp))
  have h2 := q'.len hq'
  rw [List.set_cons_zero, qsV, qsV]
  simp only [Nat.zero_mul, List.take_zero, List.nil_append, Nat.zero_add]
  rw [h2, ← h1, List.drop_left]
 | q :: r, s + 1, q', ha, hq', h => by
  have hq := q.len (ha q (by simp))
  have := qsV_put r s q' (fun x hx => ha x (by simp [hx])) hq' (by simpa using h)
  rw [qsV, List.set_cons_succ, qsV, ← this]
  unfold overAt
  rw [show (s + 1) * 5 = q.cs.length + s * 5 by omega, List.take_length_add_append, Nat.add_assoc, List.drop_length_add_append]
  simp
theorem AllQ.set {l : List Qr} (h : AllQ l) (s : Nat) (q : Qr) (hq : q.OK) : AllQ (l.set s q) := fun y hy => by
 rcases List.mem_or_eq_of_mem_set hy with h1 | h1
 ·exact h y h1
 ·rw [h1]; exact hq
theorem AllQ.get {l : List Qr} (h : AllQ l) (s : Nat) (hs : s < l.length) : (l.getD s zQr).OK := by
 rw [List.getD_eq_getElem?_getD, List.getElem?_eq_getElem hs]
 exact h _ (List.getElem_mem hs)
def MT (T : Nat) : Prop := T = 87 ∨ T = 90 ∨ T = 140 ∨ T = 57
def FT (F : Nat → Prop) (W : World) : Prop := ∀ k, F k → ∃ cells T, W.heap[k]? = some (.cells cells T (0, 0)) ∧ MT T
theorem RdT.mt {α : Type} {d : Kd α} {T : Nat} {W W' : World} {v : Value} {xs : List α} {F : Nat → Prop} (hp : Plain d) (h : RdT d T W v xs) (hk : Kp F W W') (hF : FT F W) (hT : ¬ MT T) : RdT d T W' v xs :=
 h.kp hp hk (fun k cells hf hc => by
  obtain ⟨c2, T2, h2, h3⟩ := hF k hf
  rw [hc] at h2
  simp only [Option.some.injEq, Obj.cells.injEq] at h2
  exact hT (h2.2.1 ▸ h3))
theorem ne_of_types {W : World} {a b : Nat} {c1 c2 : Array Value} {T1 T2 : Nat} (h1 : W.heap[a]? = some (.cells c1 T1 (0, 0))) (h2 : W.heap[b]? = some (.cells c2 T2 (0, 0))) (h : T1 ≠ T2) : a ≠ b := by
 rintro rfl
 rw [h1] at h2
 simp only [Option.some.injEq, Obj.cells.injEq] at h2
 exact h h2.2.1
structure NtP where
 c : Cf
 A : Option Addr
 m : Nat
 s : Sc
 a : ScA
 g : Nat
 N : Nat
 Q : Nat
structure NtP.OK (p : NtP) : Prop where
 hc : p.c.OK
 hs : p.s.OK p.c
 hN : p.c.n = p.N
 hQ : p.c.slots = p.Q
def NtP.cells (p : NtP) (round : Int) (nb : Nat) (sv cv : Value) : List Value := [.int .i64 p.c.n, .int .i64 p.c.pi, .int .i64 p.c.e, .int .i64 p.c.g, .int .i64 p.c.first, .slice p.A p.c.pairs.length p.m, .slice p.a.Ao p.s.on.length p.a.mo, .slice p.a.Ad p.s.drifts.length p.a.md, .slice p.a.Ae p.s.errs.length p.a.me, .slice p.a.Ac p.s.calls.length p.a.mc, .int .i64 p.s.f.kind, .int .i64 p.s.f.at_, .int .i64 p.s.f.frm, .int .i64 p.s.f.to_, .slice p.a.AA p.s.f.acts.length p.a.ma, .slice p.a.AD p.s.f.devs.length p.a.mD, .int .i64 p.s.rounds, .int .i64 round, .slice (some ⟨nb, 0, none⟩) p.N p.N, sv, cv]
structure NtP.Im (p : NtP) (W : World) : Prop where
 pr : RdT (Kd.int .i64) 3 W (.slice p.A p.c.pairs.length p.m) p.c.pairs
 on : RdT (Kd.int .i64) 3 W (.slice p.a.Ao p.s.on.length p.a.mo) p.s.on
 dr : RdT (Kd.int .i64) 3 W (.slice p.a.Ad p.s.drifts.length p.a.md) p.s.drifts
 er : RdT (Kd.int .i64) 3 W (.slice p.a.Ae p.s.errs.length p.a.me) p.s.errs
 ca : RdT k52 52 W (.slice p.a.Ac p.s.calls.length p.a.mc) p.s.calls
 ac : RdT k83 83 W (.slice p.a.AA p.s.f.acts.length p.a.ma) p.s.f.acts
 dv : RdT (Kd.int .i64) 3 W (.slice p.a.AD p.s.f.devs.length p.a.mD) p.s.f.devs
theorem NtP.Im.below {p : NtP} {W W' : World} (h : p.Im W) (hb : Below W.heap.size W W') : p.Im W' := ⟨h.pr.below hb, h.on.below hb, h.dr.below hb, h.er.below hb, h.ca.below hb, h.ac.below hb, h.dv.below hb⟩
theorem NtP.Im.mt {p : NtP} {W W' : World} {F : Nat → Prop} (h : p.Im W) (hk : Kp F W W') (hF : FT F W) : p.Im W' :=
 ⟨h.pr.mt plain_int hk hF (by simp [MT]), h.on.mt plain_int hk hF (by simp [MT]), h.dr.mt plain_int hk hF (by simp [MT]), h.er.mt plain_int hk hF (by simp [MT]), h.ca.mt plain_call hk hF (by simp [MT]), h.ac.mt plain_act hk hF (by simp [MT]), h.dv.mt plain_int hk hF (by simp [MT])⟩
theorem NtP.Im.C {p : NtP} {W : World} (h : p.Im W) : p.c.C W p.A p.m := h.pr.C
theorem NtP.Im.F {p : NtP} {W : World} (h : p.Im W) : p.s.f.C W p.a.AA p.a.ma p.a.AD p.a.mD := ⟨h.ac.C, h.dv.C⟩
structure NdH (p : NtP) (W : World) (x : Nz) : Prop where
 hq : W.heap[x.2.qb]? = some (.cells (qsV x.1.qs).toArray 140 (0, 0))
 hqn : x.1.qs.length = p.Q
 hqa : AllQ x.1.qs
 hg : RdT k55 55 W x.2.gv x.1.got
 hgn : (x.1.got = [] ∧ x.2.gv = .slice none 0 0) ∨ (x.1.got.length = p.Q)
 hl : ∃ (A : Option Addr) (n m : Nat), x.2.lv = .slice A n m
def Apt (x y : Nz) : Prop := x.2.qb ≠ y.2.qb ∧ ∀ k, x.2.lv.ownBlock = some k → y.2.lv.ownBlock ≠ some k
structure NB (p : NtP) (W : World) (nb : Nat) (round : Int) (nz : List Nz) (sv cv : Value) : Prop where
 hg : W.heap[p.g]? = some (.cells (p.cells round nb sv cv).toArray 87 (0, 0))
 hn : W.heap[nb]? = some (.cells (ndsV p.Q nz).toArray 90 (0, 0))
 hl : nz.length = p.N
 hx : ∀ x ∈ nz, NdH p W x
 hp : nz.Pairwise Apt
 im : p.Im W
theorem NdH.below {p : NtP} {W W' : World} {x : Nz} (h : NdH p W x) (hb : Below W.heap.size W W') : NdH p W' x := ⟨blk_below h.hq hb, h.hqn, h.hqa, h.hg.below hb, h.hgn, h.hl⟩
theorem NB.below {p : NtP} {W W' : World} {nb : Nat} {round : Int} {nz : List Nz} {sv cv : Value} (h : NB p W nb round nz sv cv) (hb : Below W.heap.size W W') : NB p W' nb round nz sv cv :=
 ⟨blk_below h.hg hb, blk_below h.hn hb, h.hl, fun x hx => (h.hx x hx).below hb, h.hp, h.im.below hb⟩
theorem NB.gcells {p : NtP} {W : World} {nb : Nat} {round : Int} {nz : List Nz} {sv cv : Value} (h : NB p W nb round nz sv cv) : W.cell? ⟨p.g, 0, none⟩ = some (.int .i64 p.c.n) ∧ W.cell? ⟨p.g, 1, none⟩ = some (.int .i64 p.c.pi) ∧ W.cell? ⟨p.g, 2, none⟩ = some (.int .i64 p.c.e) ∧ W.cell? ⟨p.g, 3, none⟩ = some (.int .i64 p.c.g) ∧ W.cell? ⟨p.g, 4, none⟩ = some (.int .i64 p.c.first) ∧ W.cell? ⟨p.g, 5, none⟩ = some (.slice p.A p.c.pairs.length p.m) ∧ W.cell? ⟨p.g, 6, none⟩ = some (.slice p.a.Ao p.s.on.length p.a.mo) ∧ W.cell? ⟨p.g, 7, none⟩ = some (.slice p.a.Ad p.s.drifts.length p.a.md) ∧ W.cell? ⟨p.g, 8, none⟩ = some (.slice p.a.Ae p.s.errs.length p.a.me) ∧ W.cell? ⟨p.g, 9, none⟩ = some (.slice p.a.Ac p.s.calls.length p.a.mc) ∧ W.cell? ⟨p.g, 10, none⟩ = some (.int .i64 p.s.f.kind) ∧ W.cell? ⟨p.g, 11, none⟩ = some (.int .i64 p.s.f.at_) ∧ W.cell? ⟨p.g, 12, none⟩ = some (.int .i64 p.s.f.frm) ∧ W.cell? ⟨p.g, 13, none⟩ = some (.int .i64 p.s.f.to_) ∧ W.cell? ⟨p.g, 14, none⟩ = some (.slice p.a.AA p.s.f.acts.length p.a.ma) ∧ W.cell? ⟨p.g, 15, none⟩ = some (.slice p.a.AD p.s.f.devs.length p.a.mD) ∧ W.cell? ⟨p.g, 16, none⟩ = some (.int .i64 p.s.rounds) ∧ W.cell? ⟨p.g, 17, none⟩ = some (.int .i64 round) ∧ W.cell? ⟨p.g, 18, none⟩ = some (.slice (some ⟨nb, 0, none⟩) p.N p.N) ∧ W.cell? ⟨p.g, 19, none⟩ = some (sv) ∧ W.cell? ⟨p.g, 20, none⟩ = some (cv) := ⟨(blk_cell h.hg 0).trans rfl, (blk_cell h.hg 1).trans rfl, (blk_cell h.hg 2).trans rfl, (blk_cell h.hg 3).trans rfl, (blk_cell h.hg 4).trans rfl, (blk_cell h.hg 5).trans rfl, (blk_cell h.hg 6).trans rfl, (blk_cell h.hg 7).trans rfl, (blk_cell h.hg 8).trans rfl, (blk_cell h.hg 9).trans rfl, (blk_cell h.hg 10).trans rfl, (blk_cell h.hg 11).trans rfl, (blk_cell h.hg 12).trans rfl, (blk_cell h.hg 13).trans rfl, (blk_cell h.hg 14).trans rfl, (blk_cell h.hg 15).trans rfl, (blk_cell h.hg 16).trans rfl, (blk_cell h.hg 17).trans rfl, (blk_cell h.hg 18).trans rfl, (blk_cell h.hg 19).trans rfl, (blk_cell h.hg 20).trans rfl⟩
theorem NB.ncell {p : NtP} {W : World} {nb : Nat} {round : Int} {nz : List Nz} {sv cv : Value} (h : NB p W nb round nz sv cv) (i j : Nat) (v : Value) (hi : i < nz.length) (hj : j < 7) (hv : ((gz nz i).1.cs p.Q (gz nz i).2)[j]? = some v) : W.cell? ⟨nb, i * 7 + j, none⟩ = some v := by
 rw [blk_cell h.hn, List.getElem?_toArray, ndsV_at _ _ i j hi hj, hv]
theorem NB.ncells {p : NtP} {W : World} {nb : Nat} {round : Int} {nz : List Nz} {sv cv : Value} (h : NB p W nb round nz sv cv) (i : Nat) (hi : i < nz.length) : W.cell? ⟨nb, i * 7, none⟩ = some (.int .i64 (gz nz i).1.st) ∧ W.cell? ⟨nb, i * 7 + 1, none⟩ = some (.int .i64 (gz nz i).1.tm) ∧ W.cell? ⟨nb, i * 7 + 2, none⟩ = some (.int .i64 (gz nz i).1.was) ∧ W.cell? ⟨nb, i * 7 + 3, none⟩ = some (.int .i64 (gz nz i).1.ck) ∧ W.cell? ⟨nb, i * 7 + 4, none⟩ = some (.slice (some ⟨(gz nz i).2.qb, 0, none⟩) p.Q p.Q) ∧ W.cell? ⟨nb, i * 7 + 5, none⟩ = some ((gz nz i).2.gv) ∧ W.cell? ⟨nb, i * 7 + 6, none⟩ = some ((gz nz i).2.lv) := ⟨h.ncell i 0 _ hi (by omega) rfl, h.ncell i 1 _ hi (by omega) rfl, h.ncell i 2 _ hi (by omega) rfl, h.ncell i 3 _ hi (by omega) rfl, h.ncell i 4 _ hi (by omega) rfl, h.ncell i 5 _ hi (by omega) rfl, h.ncell i 6 _ hi (by omega) rfl⟩
theorem NB.at {p : NtP} {W : World} {nb : Nat} {round : Int} {nz : List Nz} {sv cv : Value} (h : NB p W nb round nz sv cv) (i : Nat) (hi : i < nz.length) : NdH p W (gz nz i) := by
 rw [gz_at hi]
 exact h.hx _ (List.getElem_mem hi)
theorem line_keep {W W' : World} {v : Value} {xs : List S57} {ok : Nat → Prop} (h : Kd.R k57 57 W 0 ok v xs) (hb : ∀ g, v.ownBlock = some g → W'.heap[g]? = W.heap[g]?) : Kd.R k57 57 W' 0 ok v xs := by
 obtain ⟨h0, inner, ho, hr⟩ := h
 refine ⟨h0, inner, ?_, ⟨hr.1, fun j x hj => ?_⟩⟩
 ·obtain ⟨h1, h2⟩ := ho
  refine ⟨h1, ?_⟩
  rcases h2 with h2 | ⟨g, cap, cur, hv, hg, hh, r⟩
  ·exact .inl h2
  ·refine .inr ⟨g, cap, cur, hv, hg, ?_, r⟩
   rw [hb g (by rw [hv]; rfl)]; exact hh
 ·have := hr.2 j x hj
  have h3 := k57_openM this
  rw [h3]
  exact k57_mkM _ _ _ _
theorem get_ne {nz : List Nz} (hp : nz.Pairwise Apt) {i j : Nat} (hi : i < nz.length) (hj : j < nz.length) (h : i ≠ j) : (gz nz i).2.qb ≠ (gz nz j).2.qb := by
 rw [gz_at hi, gz_at hj]
 rcases Nat.lt_or_gt_of_ne h with h1 | h1
 ·exact (List.pairwise_iff_getElem.1 hp i j hi hj h1).1
 ·exact fun e => (List.pairwise_iff_getElem.1 hp j i hj hi h1).1 e.symm
theorem NB.ft {p : NtP} {W : World} {nb : Nat} {round : Int} {nz : List Nz} {sv cv : Value} (h : NB p W nb round nz sv cv) (i : Nat) (hi : i < nz.length) {F : Nat → Prop} (hF : ∀ k, F k → k = nb ∨ k = (gz nz i).2.qb) : FT F W := fun k hk => by
 rcases hF k hk with rfl | rfl
 ·exact ⟨_, _, h.hn, by simp [MT]⟩
 ·exact ⟨_, _, (h.at i hi).hq, by simp [MT]⟩
theorem NB.upd {p : NtP} {W W' : World} {nb : Nat} {round : Int} {nz : List Nz} {sv cv : Value} (h : NB p W nb round nz sv cv) (i : Nat) (hi : i < nz.length) {F : Nat → Prop} (hk : Kp F W W') (hF : ∀ k, F k → k = nb ∨ k = (gz nz i).2.qb)
  (z : Nz) (hn : W'.heap[nb]? = some (.cells (ndsV p.Q (nz.set i z)).toArray 90 (0, 0))) (hz : NdH p W' z) (hqb : z.2.qb = (gz nz i).2.qb) (hlv : z.2.lv = (gz nz i).2.lv) : NB p W' nb round (nz.set i z) sv cv := by
 have hft := h.ft i hi hF
 refine ⟨hk.blk h.hg (fun e => ?_), hn, by rw [List.length_set]; exact h.hl, fun y hy => ?_, ?_, h.im.mt hk hft⟩
 ·rcases hF _ e with e | e
  ·exact ne_of_types h.hg h.hn (by decide) e
  ·exact ne_of_types h.hg (h.at i hi).hq (by decide) e
 ·obtain ⟨j, hj, rfl⟩ := List.mem_iff_getElem.1 hy
  rw [List.length_set] at hj
  by_cases hij : i = j
  ·subst hij
   rw [List.getElem_set_self]; exact hz
  ·rw [List.getElem_set_ne hij]
   have hx := h.hx _ (List.getElem_mem hj)
   have hne := get_ne h.hp hi hj hij
   rw [gz_at hj] at hne
   refine ⟨hk.blk hx.hq (fun e => ?_), hx.hqn, hx.hqa, hx.hg.mt plain_item hk hft (by simp [MT]), hx.hgn, hx.hl⟩
   ·rcases hF _ e with e | e
    ·exact ne_of_types hx.hq h.hn (by decide) e
    ·exact hne e.symm
 ·rw [List.pairwise_iff_getElem]
  intro a b ha hb hab
  rw [List.length_set] at ha hb
  have hp := List.pairwise_iff_getElem.1 h.hp a b ha hb hab
  have hgi : gz nz i = nz[i] := gz_at hi
  rw [hgi] at hqb hlv
  unfold Apt at hp ⊢
  rw [List.getElem_set, List.getElem_set]
  split
  ·rename_i e; subst e
   split
   ·omega
   ·rw [hqb, hlv]; exact hp
  ·split
   ·rename_i e; subst e; rw [hqb, hlv]; exact hp
   ·exact hp
theorem node_listen (b o T : Nat) (cur : List Value) (w : World) (hg : w.heap[b]? = some (.cells cur.toArray T (0, 0))) (hf : o + 1 < cur.length) :
  Calls Tryz.prog 64 #[.pointer (some ⟨b, o, none⟩)] w fun e w' => e = .returned (.tuple #[]) ∧ w'.heap[b]? = some (.cells ((cur.set o (.int .i64 1)).set (o + 1) (.int .i64 0)).toArray T (0, 0)) ∧ Kp (fun k => k = b) w w' := by
 have y0 : w.cell? ⟨b, o, none⟩ = some (cur[o]'(by omega)) := by rw [blk_cell hg, List.getElem?_toArray, List.getElem?_eq_getElem]
 have y1 : w.cell? ⟨b, o + 1, none⟩ = some (cur[o + 1]'hf) := by rw [blk_cell hg, List.getElem?_toArray, List.getElem?_eq_getElem]
 have z0 := blk_frozen hg o
 have z1 := blk_frozen hg (o + 1)
 have HG := am hg
 generalize cur[o]'(by omega) = u0 at *
 generalize cur[o + 1]'hf = u1 at *
 clear hg hf
 go_enter Tryz.func64, Tryz.ntmps64
 go_wp2
 go_end0
 refine ⟨rfl, ?_, ((Kp.refl (fun k => k = b) w).set_ (p := ⟨b, o, none⟩) (.inl rfl) _).set_ (p := ⟨b, o + 1, none⟩) (.inl rfl) _⟩
 exact blk_put (blk_put HG.out o (.int .i64 1) (cs' := (cur.set o (.int .i64 1)).toArray) (by simp)) (o + 1) (.int .i64 0) (by simp)
end Go.Proofs.YtgcgglmmfgmaoaaGreat.PK
end
section
namespace Go.Proofs.YtgcgglmmfgmaoaaGreat.PK
open Go Go.RowKit Go.Proofs.YtgcgglmmfgmaoaaGreatW.PrintWords Go.Proofs.YtgcgglmmfgmaoaaGreatW.PrintLast Go.Proofs.YtgcgglmmfgmaoaaGreatW.PrintMore
attribute [local go_sem] max2_int min2_int max_two min_two
theorem cell_set {W : World} {nb Q : Nat} {nz : List Nz} (h : W.heap[nb]? = some (.cells (ndsV Q nz).toArray 90 (0, 0))) (i j : Nat) (v : Value) (hi : i < nz.length) (hj : j < 7) (hv : ((gz nz i).1.cs Q (gz nz i).2)[j]? = some v) : W.cell? ⟨nb, i * 7 + j, none⟩ = some v := by
 rw [blk_cell h, List.getElem?_toArray, ndsV_at _ _ i j hi hj, hv]
theorem set_set_ {α : Type} (l : List α) (i : Nat) (x y : α) : (l.set i x).set i y = l.set i y := by rw [List.set_set]
theorem ndsV_same (Q : Nat) : ∀ (l : List Nz) (i : Nat) (z z' : Nz), z.1.cs Q z.2 = z'.1.cs Q z'.2 → ndsV Q (l.set i z) = ndsV Q (l.set i z')
 | [], i, z, z', _ => rfl
 | x :: r, 0, z, z', h => by rw [List.set_cons_zero, List.set_cons_zero, ndsV, ndsV, h]
 | x :: r, i + 1, z, z', h => by rw [List.set_cons_succ, List.set_cons_succ, ndsV, ndsV, ndsV_same Q r i z z' h]
def Nd.reset (x : Nd) (Q : Nat) : Nd := { x with st := 1, tm := 0, got := [], qs := List.replicate Q zQr }
def resetZ (z : Nz) (Q : Nat) : Nz := (z.1.reset Q, { z.2 with gv := .slice none 0 0 })
theorem zQr_ok : zQr.OK := ⟨rfl, by decide⟩
theorem cl_step (qs : List Qr) (k : Nat) (h : k < qs.length) : (List.replicate k zQr ++ qs.drop k).set k zQr = List.replicate (k + 1) zQr ++ qs.drop (k + 1) := by
 rw [List.set_append_right _ _ (by simp), List.length_replicate, Nat.sub_self, List.drop_eq_getElem_cons h, List.set_cons_zero, List.replicate_succ', List.append_assoc]
 rfl
theorem cl_ok {qs : List Qr} (h : AllQ qs) (k : Nat) : AllQ (List.replicate k zQr ++ qs.drop k) := fun q hq => by
 rcases List.mem_append.1 hq with h1 | h1
 ·rw [List.eq_of_mem_replicate h1]; exact zQr_ok
 ·exact h q (List.mem_of_mem_drop h1)
theorem node_reset (p : NtP) (ok : p.OK) (nb : Nat) (round : Int) (nz : List Nz) (sv cv : Value) (w : World) (h : NB p w nb round nz sv cv) (i : Nat) (hi : i < nz.length) :
  Calls Tryz.prog 63 #[.pointer (some ⟨nb, i * 7, none⟩)] w fun e w' => e = .returned (.tuple #[]) ∧ NB p w' nb round (nz.set i (resetZ (gz nz i) p.Q)) sv cv ∧ Kp (fun k => k = nb ∨ k = (gz nz i).2.qb) w w' := by
 obtain ⟨z, hz⟩ : ∃ z, z = gz nz i := ⟨_, rfl⟩
 have hat := h.at i hi
 rw [← hz] at hat ⊢
 have HZ := am hz
 have HI := am hi
 have HH := am h
 have HA := am hat
 have hQ := am (show p.Q ≤ 15 by have := slots_range ok.hc; have := ok.hQ; omega)
 have hne := am (show nb ≠ z.2.qb from ne_of_types h.hn hat.hq (by decide))
 have KL := am (node_listen nb (i * 7) 90 (ndsV p.Q nz) w h.hn (by rw [ndsV_len]; omega))
 have e1 : ((ndsV p.Q nz).set (i * 7) (.int .i64 1)).set (i * 7 + 1) (.int .i64 0) = ndsV p.Q (nz.set i ({ z.1 with st := 1, tm := 0 }, z.2)) := by
  have a1 := ndsV_set p.Q nz i 0 (.int .i64 1) ({ z.1 with st := 1 }, z.2) hi (by omega) (by rw [← hz]; rfl)
  rw [Nat.add_zero] at a1
  rw [a1, ndsV_set p.Q _ i 1 (.int .i64 0) ({ z.1 with st := 1, tm := 0 }, z.2) (by simpa using hi) (by omega) (by rw [gz_set _ hi]; rfl), set_set_]
 rw [e1] at KL
 clear hz hat e1 h hi ok
 go_enter Tryz.func63, Tryz.ntmps63
 go_upto_region 1 with (go_at_call 64; refine KL.out.mono ?_; rintro e W1 ⟨rfl, h1, k1⟩; have H1 := am h1; have K1 := am k1; clear h1 k1)
 have y5 := cell_set H1.out i 5 z.2.gv (by rw [List.length_set]; exact HI.out) (by omega) (by rw [gz_set _ HI.out]; rfl)
 have yf := blk_frozen H1.out (i * 7 + 5)
 go_upto_region 2 with (fail)
 have H2 := am (show (W1.setCell ⟨nb, i * 7 + 5, none⟩ (.slice none 0 0)).heap[nb]? = some (.cells (ndsV p.Q (nz.set i ({ z.1 with st := 1, tm := 0, got := [] }, { z.2 with gv := .slice none 0 0 }))).toArray 90 (0, 0)) from by
  refine blk_put H1.out (i * 7 + 5) (.slice none 0 0) ?_
  rw [List.setIfInBounds_toArray, ndsV_set p.Q _ i 5 (.slice none 0 0) ({ z.1 with st := 1, tm := 0, got := [] }, { z.2 with gv := .slice none 0 0 }) (by rw [List.length_set]; exact HI.out) (by omega) (by rw [gz_set _ HI.out]; rfl), set_set_])
 have K2 := am (K1.out.set_ (p := ⟨nb, i * 7 + 5, none⟩) (.inl rfl) (.slice none 0 0))
 clear y5 yf H1 K1 KL
 generalize W1.setCell ⟨nb, i * 7 + 5, none⟩ (.slice none 0 0) = W2 at *
 have K3 := am (K2.out.mono (G := fun k => k = nb ∨ k = z.2.qb) (fun k _ e => .inl e))
 have G3 := am (K2.out.blk HA.out.hq (fun e => hne.out e.symm))
 have y4 := cell_set H2.out i 4 (.slice (some ⟨z.2.qb, 0, none⟩) p.Q p.Q) (by rw [List.length_set]; exact HI.out) (by omega) (by rw [gz_set _ HI.out]; rfl)
 go_wp2
 clear y4 K2
 go_loopw [13] (fun v w' => ∃ k : Nat, v = .int .i64 k ∧ k ≤ p.Q ∧ Aside0 (w'.heap[nb]? = some (.cells (ndsV p.Q (nz.set i ({ z.1 with st := 1, tm := 0, got := [] }, { z.2 with gv := .slice none 0 0 }))).toArray 90 (0, 0))) ∧ Aside0 (w'.heap[z.2.qb]? = some (.cells (qsV (List.replicate k zQr ++ z.1.qs.drop k)).toArray 140 (0, 0))) ∧ Aside0 (Kp (fun k => k = nb ∨ k = z.2.qb) w w')) (fun v _ => p.Q - (intOf v).toNat)
 case atStart => exact ⟨0, rfl, Nat.zero_le _, H2, ⟨by simpa using G3.out⟩, K3⟩
 case round =>
  clear H2 G3 K3
  obtain ⟨k, rfl, hk, hN, hQs, hK⟩ := hrel
  by_cases hlt : k < p.Q
  ·have y4 := cell_set hN.out i 4 (.slice (some ⟨z.2.qb, 0, none⟩) p.Q p.Q) (by rw [List.length_set]; exact HI.out) (by omega) (by rw [gz_set _ HI.out]; rfl)
   have hlen : (List.replicate k zQr ++ z.1.qs.drop k).length = p.Q := by have := HA.out.hqn; simp; omega
   have KC := queue_Clear z.2.qb (k * 5) 140 (qsV (List.replicate k zQr ++ z.1.qs.drop k)) wr hQs.out (by rw [qsV_len _ (cl_ok HA.out.hqa k), hlen]; omega)
   rw [qsV_put _ k zQr (cl_ok HA.out.hqa k) zQr_ok (by omega), cl_step _ k (by have := HA.out.hqn; omega)] at KC
   have hq15 := hQ.out
   clear hlen hk
   go_wp2_with (go_at_call 88; refine KC.mono ?_; rintro e W4 ⟨rfl, h4, k4⟩; have H4 := am h4; have K4 := am k4; clear h4 k4)
   go_roundw
   case rel => exact ⟨k + 1, by simp, by omega, ⟨K4.out.blk hN.out (fun e => hne.out e)⟩, H4, ⟨hK.out.trans (K4.out.mono (fun _ _ e => .inr e))⟩⟩
   case measure => simp [intOf]; omega
  ·obtain rfl : k = p.Q := by omega
   have hfin := hQs.out
   rw [List.drop_eq_nil_of_le (by have := HA.out.hqn; omega), List.append_nil] at hfin
   have HF := am hfin
   clear hfin hk hlt
   go_wp2
   go_end0
   have hft := HH.out.ft i HI.out (F := fun k => k = nb ∨ k = z.2.qb) (fun k e => by rw [← HZ.out]; exact e)
   refine ⟨rfl, HH.out.upd i HI.out hK.out (fun k e => by rw [← HZ.out]; exact e) (resetZ z p.Q) ?_ ?_ (by rw [← HZ.out]; rfl) (by rw [← HZ.out]; rfl), hK.out⟩
   ·rw [ndsV_same p.Q nz i (resetZ z p.Q) ({ z.1 with st := 1, tm := 0, got := [] }, { z.2 with gv := .slice none 0 0 }) rfl]
    exact hN.out
   ·exact ⟨HF.out, by show (List.replicate p.Q zQr).length = p.Q; simp, fun q hq => by rw [List.eq_of_mem_replicate hq]; exact zQr_ok, RdT.nil _ _ _, .inl ⟨rfl, rfl⟩, HA.out.hl⟩
def Nd.pow (p : NtP) (round : Int) (i : Nat) (x : Nd) : Nd :=
 let x1 := if rd p.s.on i = round then { x with st := 1, tm := 0 } else x
 if x1.st = 0 then x1 else { x1 with ck := wrap64 (x1.ck + pickI p.s.drifts (11 * round + i) p.c.g) }
def powZ (p : NtP) (round : Int) (i : Nat) (z : Nz) : Nz := (z.1.pow p round i, z.2)
def powN (p : NtP) (round : Int) : Nat → List Nz → List Nz
 | 0, nz => nz
 | i + 1, nz => (powN p round i nz).set i (powZ p round i (gz (powN p round i nz) i))
def powR (p : NtP) (round : Int) (nz : List Nz) : List Nz :=
 if p.s.f.kind = 1 ∧ round = p.s.f.to_ ∧ (gz nz p.s.f.at_.toNat).1.st ≠ 0 then nz.set p.s.f.at_.toNat (resetZ (gz nz p.s.f.at_.toNat) p.Q) else nz
def FN (nb : Nat) (nz : List Nz) (k : Nat) : Prop := k = nb ∨ ∃ z ∈ nz, k = z.2.qb
theorem FN.get {nb : Nat} {nz : List Nz} {i : Nat} (hi : i < nz.length) {k : Nat} (h : k = nb ∨ k = (gz nz i).2.qb) : FN nb nz k := by
 rcases h with h | h
 ·exact .inl h
 ·refine .inr ⟨gz nz i, ?_, h⟩
  rw [gz_at hi]
  exact List.getElem_mem hi
theorem FN.set {nb : Nat} {nz : List Nz} {i : Nat} {z : Nz} (hi : i < nz.length) (hq : z.2.qb = (gz nz i).2.qb) {k : Nat} (h : FN nb (nz.set i z) k) : FN nb nz k := by
 rcases h with h | ⟨y, hy, h⟩
 ·exact .inl h
 ·rcases List.mem_or_eq_of_mem_set hy with h1 | h1
  ·exact .inr ⟨y, h1, h⟩
  ·subst h1
   exact FN.get hi (.inr (by rw [h, hq]))
theorem NB.num {p : NtP} {W W' : World} {nb : Nat} {round : Int} {nz : List Nz} {sv cv : Value} (h : NB p W nb round nz sv cv) (i : Nat) (hi : i < nz.length) {F : Nat → Prop} (hk : Kp F W W') (hF : ∀ k, F k → k = nb)
  (x : Nd) (hn : W'.heap[nb]? = some (.cells (ndsV p.Q (nz.set i (x, (gz nz i).2))).toArray 90 (0, 0))) (hq : x.qs = (gz nz i).1.qs) (hgo : x.got = (gz nz i).1.got) (hlo : x.log = (gz nz i).1.log) : NB p W' nb round (nz.set i (x, (gz nz i).2)) sv cv := by
 have hz := h.at i hi
 have hft := h.ft i hi (F := F) (fun k e => .inl (hF k e))
 refine h.upd i hi hk (fun k e => .inl (hF k e)) _ hn ?_ rfl rfl
 refine ⟨?_, by rw [hq]; exact hz.hqn, by rw [hq]; exact hz.hqa, by rw [hgo]; exact hz.hg.mt plain_item hk hft (by simp [MT]), by rw [hgo]; exact hz.hgn, ?_⟩
 ·rw [hq]
  exact hk.blk hz.hq (fun e => ne_of_types hz.hq h.hn (by decide) (hF _ e))
 ·exact hz.hl
theorem net_power (p : NtP) (ok0 : p.OK) (nb : Nat) (round : Int) (hr0 : 0 ≤ round) (hr1 : round ≤ 1000) (nz : List Nz) (sv cv : Value) (w : World) (h : NB p w nb round nz sv cv) :
  Calls Tryz.prog 42 #[.pointer (some ⟨p.g, 0, none⟩)] w fun e w' => e = .returned (.tuple #[]) ∧ NB p w' nb round (powN p round p.N (powR p round nz)) sv cv ∧ Kp (FN nb nz) w w' := by
 have ok := am ok0
 have HH := am h
 have hr := am (And.intro hr0 hr1)
 have gg := h.gcells
 have hN12 := am (show p.N ≤ 12 ∧ p.c.n = p.N ∧ 0 ≤ p.c.g ∧ p.c.g ≤ 100 from ⟨by have := ok0.hc.n12; have := ok0.hN; omega, ok0.hN, ok0.hc.g0, ok0.hc.g1⟩)
 have hkind := am (show p.s.f.kind = 1 → 0 ≤ p.s.f.at_ ∧ p.s.f.at_ < p.N from fun hk => by
  have h1 := ok0.hs.f.a1
  rw [if_pos hk, ok0.hN] at h1
  exact ⟨ok0.hs.f.a0, h1⟩)
 have HPR : Aside0 (powR p round nz = if p.s.f.kind = 1 ∧ round = p.s.f.to_ ∧ (gz nz p.s.f.at_.toNat).1.st ≠ 0 then nz.set p.s.f.at_.toNat (resetZ (gz nz p.s.f.at_.toNat) p.Q) else nz) := ⟨rfl⟩
 have hF1 := am (fun k (e : k = nb) => (show FN nb nz k from .inl e))
 have hF2 := am (fun (hlt : p.s.f.at_.toNat < nz.length) k (e : k = nb ∨ k = (gz nz p.s.f.at_.toNat).2.qb) => FN.get hlt e)
 generalize FN nb nz = FF at *
 generalize powR p round nz = nz1 at *
 clear h hr0 hr1 ok0
 go_enter Tryz.func42, Tryz.ntmps42
 go_upto_region 1 with (fail)
 have HFB := am (blk_new w (.cells #[.int .i64 p.s.f.kind, .int .i64 p.s.f.at_, .int .i64 p.s.f.frm, .int .i64 p.s.f.to_, .slice p.a.AA p.s.f.acts.length p.a.ma, .slice p.a.AD p.s.f.devs.length p.a.mD] 27))
 have HB := am (b_al w (.cells #[.int .i64 p.s.f.kind, .int .i64 p.s.f.at_, .int .i64 p.s.f.frm, .int .i64 p.s.f.to_, .slice p.a.AA p.s.f.acts.length p.a.ma, .slice p.a.AD p.s.f.devs.length p.a.mD] 27))
 have HN := am (HH.out.below HB.out)
 have hfb := am (show p.g < w.heap.size ∧ nb < w.heap.size from ⟨blk_lt HH.out.hg, blk_lt HH.out.hn⟩)
 clear gg
 generalize w.alloc (.cells #[.int .i64 p.s.f.kind, .int .i64 p.s.f.at_, .int .i64 p.s.f.frm, .int .i64 p.s.f.to_, .slice p.a.AA p.s.f.acts.length p.a.ma, .slice p.a.AD p.s.f.devs.length p.a.mD] 27) = W0 at *
 have gg := HN.out.gcells
 have ff := cells6 HFB.out
 have hlen : nz.length = p.N := HH.out.hl
 have HL := am hlen
 clear hlen
 have hna := am (fun (hlt : p.s.f.at_.toNat < nz.length) => HN.out.ncells p.s.f.at_.toNat hlt)
 have h3b : (p.s.f.kind == 1) = false ∨ ((p.s.f.kind == 1) = true ∧ (round == p.s.f.to_) = false) ∨ ((p.s.f.kind == 1) = true ∧ (round == p.s.f.to_) = true) := by
  cases (p.s.f.kind == 1) <;> cases (round == p.s.f.to_) <;> simp
 obtain ⟨bb, hbb⟩ : ∃ bb : Bool, bb = decide (p.s.f.kind = 1 ∧ round = p.s.f.to_ ∧ (gz nz p.s.f.at_.toNat).1.st ≠ 0) := ⟨_, rfl⟩
 have HBB := am hbb
 clear hbb
 go_cut [33] (fun v33 wc => v33 = .bool bb ∧ Aside0 (wc = W0.drew))
 case first =>
  rcases h3b with b1 | ⟨b1, b2⟩ | ⟨b1, b2⟩
  ·have hb0 : bb = false := by
    rw [HBB.out]; exact decide_eq_false (fun e => by simp [e.1] at b1)
   subst hb0
   clear HBB
   refine startB (n := 24) (F := fun _ => False) (ds := []) (by kernel_rfl) rfl (fun hHeld => ?_)
   refine plan_ [.p 0 10, .t 1 11, .p 2 12, .p 3 13, .g 4 14, .g 5 15, .g 6 16, .g 7 17, .g 8 18, .g 9 19, .g 10 20, .p 11 21, .p 12 22, .g 13 23, .g 14 24, .g 15 25, .g 16 26, .g 17 27, .g 18 28, .g 19 29, .g 20 30, .g 21 31, .g 22 32, .p 23 33] ?_
   repeat (first | refine jP ?_ | refine jW hHeld ?_ | refine jG ?_)
   refine planE ?_
   refine done_ (by kernel_rfl) ?_
   go_wp2
   go_meet
   case rel => exact ⟨rfl, ⟨rfl⟩⟩
  ·have hb0 : bb = false := by
    rw [HBB.out]; exact decide_eq_false (fun e => by simp [e.2.1] at b2)
   subst hb0
   clear HBB
   refine startB (n := 24) (F := fun _ => False) (ds := []) (by kernel_rfl) rfl (fun hHeld => ?_)
   refine plan_ [.p 0 10, .t 1 11, .p 2 12, .p 3 13, .p 4 14, .p 5 15, .p 6 16, .t 7 17, .p 8 18, .t 9 19, .p 10 20, .p 11 21, .p 12 22, .g 13 23, .g 14 24, .g 15 25, .g 16 26, .g 17 27, .g 18 28, .g 19 29, .g 20 30, .g 21 31, .g 22 32, .p 23 33] ?_
   repeat (first | refine jP ?_ | refine jW hHeld ?_ | refine jG ?_)
   refine planE ?_
   refine done_ (by kernel_rfl) ?_
   go_wp2
   go_meet
   case rel => exact ⟨rfl, ⟨rfl⟩⟩
  ·have hk1 : p.s.f.kind = 1 := by simpa using b1
   have hr1 : round = p.s.f.to_ := by simpa using b2
   have hat0 := hkind.out hk1
   have hlt : p.s.f.at_.toNat < nz.length := by rw [HL.out]; omega
   have nn := hna.out hlt
   have q0 := eq_true hat0.1
   have q1 := eq_true hat0.2
   have b3 : ((gz nz p.s.f.at_.toNat).1.st != 0) = bb := by
    rw [HBB.out]
    by_cases e : (gz nz p.s.f.at_.toNat).1.st = 0
    ·simp [e]
    ·simp [e, hk1, hr1]
   clear hat0 hlt hk1 hr1 hna HBB
   cases bb
   all_goals
    refine startB (n := 24) (F := fun _ => False) (ds := []) (by kernel_rfl) rfl (fun hHeld => ?_)
    refine plan_ [.p 0 10, .t 1 11, .p 2 12, .p 3 13, .p 4 14, .p 5 15, .p 6 16, .t 7 17, .p 8 18, .t 9 19, .p 10 20, .p 11 21, .p 12 22, .p 13 23, .p 14 24, .p 15 25, .t 16 26, .p 17 27, .t 18 28, .p 19 29, .p 20 30, .t 21 31, .p 22 32, .p 23 33] ?_
    repeat (first | refine jP ?_ | refine jW hHeld ?_ | refine jG ?_)
    refine planE ?_
    refine done_ (by kernel_rfl) ?_
    go_wp2
    go_meet
    case rel => exact ⟨rfl, ⟨rfl⟩⟩
 case rest =>
  obtain ⟨rfl, ⟨rfl⟩⟩ := hcut
  have HN0 := am (HN.out.below (below_drew (Below.refl W0.heap.size W0)))
  have HB0 := am (b_tr HB.out (below_drew (Below.refl W0.heap.size W0)))
  have HF0 := am (show W0.drew.heap[w.heap.size]? = some (.cells #[.int .i64 p.s.f.kind, .int .i64 p.s.f.at_, .int .i64 p.s.f.frm, .int .i64 p.s.f.to_, .slice p.a.AA p.s.f.acts.length p.a.ma, .slice p.a.AD p.s.f.devs.length p.a.mD] 27 (0, 0)) from HFB.out)
  clear HN HB HFB gg ff hna h3b
  generalize W0.drew = W1 at *
  go_upto_if 33 with (fail)
  go_cut [] (fun wc => Aside0 (NB p wc nb round nz1 sv cv) ∧ Aside0 (Kp FF w wc))
  case first =>
   cases bb
   ·go_wp2
    go_meet
    case rel =>
     have hz1 := HPR.out
     rw [if_neg (by have := HBB.out; simpa using this.symm)] at hz1
     exact ⟨⟨by rw [hz1]; exact HN0.out⟩, ⟨Kp.of HB0.out⟩⟩
   ·have hbt : p.s.f.kind = 1 ∧ round = p.s.f.to_ ∧ (gz nz p.s.f.at_.toNat).1.st ≠ 0 := by have := HBB.out; simpa using this.symm
    have hz1 := HPR.out
    rw [if_pos hbt] at hz1
    have HZ1 := am hz1
    have hat0 := hkind.out hbt.1
    have hlt : p.s.f.at_.toNat < nz.length := by rw [HL.out]; omega
    have q0 := eq_true hat0.1
    have q1 := eq_true hat0.2
    have hat := am hlt
    have gg := HN0.out.gcells
    have ff := cells6 HF0.out
    clear hbt hz1 hat0 hlt HPR HBB
    go_wp2
    refine startB (n := 8) (F := fun _ => False) (ds := [7]) (by kernel_rfl) rfl (fun hHeld => ?_)
    refine plan_ [.p 0 34, .p 1 35, .p 2 36, .t 3 37, .p 4 38, .t 5 39, .p 6 40] ?_
    repeat (first | refine jP ?_ | refine jW hHeld ?_ | refine jG ?_)
    refine planE ?_
    refine jL 7 (some 41) (fun K hK => ?_)
    refine kC Tryz.func63 #[.pointer (some ⟨nb, p.s.f.at_.toNat * 7, none⟩)] ?_
    refine (node_reset p ok.out nb round nz sv cv _ (HN0.out.below (below_drew (Below.refl W1.heap.size W1))) p.s.f.at_.toNat hat.out).mono ?_
    rintro e W2 ⟨rfl, h2, k2⟩
    have H2 := am h2
    have K2 := am k2
    clear h2 k2
    refine ⟨_, rfl, ?_⟩
    refine hK.out _ _ ?_
    clear hK K
    refine jM 41 ?_
    refine done_ (by kernel_rfl) ?_
    clear gg ff q0 q1
    go_wp2
    go_meet
    case rel => exact ⟨⟨by rw [HZ1.out]; exact H2.out⟩, ⟨(Kp.of (b_tr HB0.out (below_drew (Below.refl _ _)))).trans (K2.out.mono (fun k _ e => hF2.out hat.out k e))⟩⟩
  case rest =>
   obtain ⟨HN2, HK2⟩ := hcut
   clear HH HL HPR HBB HN0 HB0 HF0
   obtain ⟨W2, hW2⟩ : ∃ W2, W2 = wc := ⟨_, rfl⟩
   subst hW2
   clear hF2 hkind hfb
   have gg := HN2.out.gcells
   have hNN := HN2.out.hl
   have HL := am hNN
   clear hNN
   go_wp2
   clear gg
   go_loopw [47] (fun v w' => ∃ i : Nat, v = .int .i64 i ∧ i ≤ p.N ∧ Aside0 (NB p w' nb round (powN p round i nz1) sv cv) ∧ Aside0 (Kp FF w w')) (fun v _ => p.N - (intOf v).toNat)
   case atStart => exact ⟨0, rfl, Nat.zero_le _, HN2, HK2⟩
   case round =>
    clear HN2 HK2
    obtain ⟨i, rfl, hi, hN, hK⟩ := hrel
    by_cases hlt : i < p.N
    ·have hps : powN p round (i + 1) nz1 = (powN p round i nz1).set i (powZ p round i (gz (powN p round i nz1) i)) := rfl
     obtain ⟨nzx, hnzx⟩ : ∃ nzx, nzx = powN p round i nz1 := ⟨_, rfl⟩
     rw [← hnzx] at hps hN
     have HPS := am hps
     have hli : i < nzx.length := by rw [hN.out.hl]; exact hlt
     have HLI := am hli
     obtain ⟨ad, hA⟩ := hN.out.im.on.ad (by have := ok.out.hs.on; have := ok.out.hN; omega)
     have gg := hN.out.gcells
     rw [hA] at gg
     have hon := hN.out.im.on
     rw [hA] at hon
     have oc := hon.int_cell i (by have := ok.out.hs.on; have := ok.out.hN; omega)
     have qi : ((i : Int) < (p.s.on.length : Int)) = True := eq_true (by have := ok.out.hs.on; have := ok.out.hN; omega)
     have qi2 : (i < p.s.on.length) = True := eq_true (by have := ok.out.hs.on; have := ok.out.hN; omega)
     have qj : ((i : Int) < (p.N : Int)) = True := eq_true (by omega)
     obtain ⟨x, y, hxy⟩ : ∃ x y, gz nzx i = (x, y) := ⟨_, _, rfl⟩
     have HXY := am hxy
     have HPZ : Aside0 (powZ p round i (x, y) = (x.pow p round i, y)) := ⟨rfl⟩
     obtain ⟨on_, hon_⟩ : ∃ on_, on_ = rd p.s.on (i : Int) := ⟨_, rfl⟩
     rw [← hon_] at oc
     have HON := am hon_
     have hwr : Aside0 (True → wrap64 (wrap64 (11 * round) + (i : Int)) = 11 * round + (i : Int)) := ⟨fun _ => by
      have h1 := hr.out
      have h2 := hN12.out
      rw [w64_q (11 * round) (by omega) (by omega), w64_q _ (by omega) (by omega)]⟩
     have KP := am (fun W (hW : Kd.C (Kd.int .i64) W p.a.Ad p.s.drifts.length p.s.drifts ∧ p.s.drifts.length ≤ p.a.md) => pick_calls p.s.drifts (by have := ok.out.hs.dr; omega) (11 * round + (i : Int)) p.c.g hN12.out.2.2.1 (by have := hN12.out.2.2.2; omega) p.a.Ad p.a.md W hW.1 hW.2)
     clear hps hnzx hli hon hon_ hi hA
     obtain ⟨b, hb⟩ : ∃ b, b = (on_ == round) := ⟨_, rfl⟩
     have HBe := am hb
     have nn := hN.out.ncells i HLI.out
     rw [hxy] at nn
     simp only at nn
     obtain ⟨x1, hx1⟩ : ∃ x1 : Nd, x1 = if on_ = round then { x with st := 1, tm := 0 } else x := ⟨_, rfl⟩
     have HX1 := am hx1
     have HLN := am hlt
     have hNr := am (hN.out.below (below_drew (Below.refl wr.heap.size wr)))
     have hKr := am (hK.out.then_ (below_drew (Below.refl wr.heap.size wr)))
     have hset : nzx.set i (x, y) = nzx := by
      rw [← hxy]
      apply List.ext_getElem?
      intro n
      by_cases hn : n = i
      ·subst hn
       rw [List.getElem?_set_self HLI.out, gz_at HLI.out, List.getElem?_eq_getElem HLI.out]
      ·rw [List.getElem?_set_ne (fun e => hn e.symm)]
     have HSET := am hset
     clear hx1 hxy hset hb
     go_wp2
     refine startB (n := 13) (F := fun _ => False) (ds := []) (by kernel_rfl) rfl (fun hHeld => ?_)
     refine plan_ [.p 0 56, .p 1 57, .p 2 58, .p 3 59, .t 4 60, .p 5 61, .p 6 62, .t 7 63, .p 8 64, .p 9 65, .p 10 66, .t 11 67, .p 12 68] ?_
     repeat (first | refine jP ?_ | refine jW hHeld ?_ | refine jG ?_)
     refine planE ?_
     refine done_ (by kernel_rfl) ?_
     clear nn gg oc qi qi2 qj hHeld hN hK
     generalize wr.drew = W3 at *
     go_upto_if 68 with (fail)
     go_cut [68] (fun v68 wc => Aside0 (NB p wc nb round (nzx.set i (x1, y)) sv cv) ∧ Aside0 (Kp FF w wc))
     case first =>
      have hbe := HBe.out
      rw [← hbe]
      cases b
      ·go_wp2
       go_meet
       case rel =>
        have : x1 = x := by rw [HX1.out, if_neg (by simpa using HBe.out.symm)]
        exact ⟨⟨by rw [this, HSET.out]; exact hNr.out⟩, hKr⟩
      ·have KL := am (node_listen nb (i * 7) 90 (ndsV p.Q nzx) W3 hNr.out.hn (by rw [ndsV_len]; have := HLI.out; omega))
       go_wp2_with (go_at_call 64; refine KL.out.mono ?_; rintro e W4 ⟨rfl, h4, k4⟩; have H4 := am h4; have K4 := am k4; clear h4 k4)
       go_meet
       case rel =>
        have hx : x1 = { x with st := 1, tm := 0 } := by rw [HX1.out, if_pos (by simpa using HBe.out.symm)]
        have e1 : ((ndsV p.Q nzx).set (i * 7) (.int .i64 1)).set (i * 7 + 1) (.int .i64 0) = ndsV p.Q (nzx.set i (x1, y)) := by
         have a1 := ndsV_set p.Q nzx i 0 (.int .i64 1) ({ x with st := 1 }, y) HLI.out (by omega) (by rw [HXY.out]; rfl)
         rw [Nat.add_zero] at a1
         rw [a1, ndsV_set p.Q _ i 1 (.int .i64 0) (x1, y) (by rw [List.length_set]; exact HLI.out) (by omega) (by rw [gz_set _ HLI.out, hx]; rfl), set_set_]
        have h5 := H4.out
        rw [e1] at h5
        have h6 := hNr.out.num i HLI.out K4.out (fun k e => e) x1 (by rw [HXY.out]; exact h5) (by rw [HXY.out, hx]) (by rw [HXY.out, hx]) (by rw [HXY.out, hx])
        rw [HXY.out] at h6
        exact ⟨⟨h6⟩, ⟨hKr.out.trans (K4.out.mono (fun k _ e => hF1.out k e))⟩⟩
     case rest =>
      obtain ⟨HX, HKX⟩ := hcut
      clear hNr hKr
      obtain ⟨nzy, hnzy⟩ : ∃ nzy, nzy = nzx.set i (x1, y) := ⟨_, rfl⟩
      rw [← hnzy] at HX
      have HZY := am (show gz nzy i = (x1, y) by rw [hnzy]; exact gz_set _ HLI.out)
      have HLY := am (show i < nzy.length by rw [hnzy, List.length_set]; exact HLI.out)
      have HPOW : Aside0 (x.pow p round i = if x1.st = 0 then x1 else { x1 with ck := wrap64 (x1.ck + pickI p.s.drifts (11 * round + i) p.c.g) }) := ⟨by
       unfold Nd.pow
       rw [← HON.out, ← HX1.out]⟩
      have HNX : Aside0 (powN p round (i + 1) nz1 = nzy.set i (x.pow p round i, y)) := ⟨by rw [HPS.out, HXY.out, hnzy, set_set_]; rfl⟩
      clear hnzy
      generalize x.pow p round i = x2 at *
      obtain ⟨W5, hW5⟩ : ∃ W5, W5 = wc := ⟨_, rfl⟩
      subst hW5
      have nn := HX.out.ncells i HLY.out
      have gg := HX.out.gcells
      rw [HZY.out] at nn
      simp only at nn
      have hiN := HLN.out
      have hN2 := hN12.out.1
      cases hst : (x1.st == 0)
      ·have hst2 : (x1.st != 0) = true := by simp [bne, hst]
       have HST := am (show ¬ x1.st = 0 by simpa using hst)
       have hiN := HLN.out
       have hN2 := hN12.out.1
       have HY := am (below_drew (Below.refl W5.heap.size W5))
       go_wp2
       clear hiN hN2
       refine startB (n := 26) (F := fun _ => False) (ds := [25]) (by kernel_rfl) rfl (fun hHeld => ?_)
       refine plan_ [.p 0 76, .p 1 77, .p 2 78, .t 3 79, .p 4 80, .p 5 81, .p 6 82, .p 7 83, .t 8 84, .p 9 85, .p 10 86, .p 11 87, .t 12 88, .p 13 89, .p 14 90, .p 15 91, .p 16 92, .p 17 93, .p 18 94, .p 19 95, .t 20 96] ?_
       repeat (first | refine jP ?_ | refine jW hHeld ?_ | refine jG ?_)
       refine planE ?_
       refine jO 21 (some 97) (fun K hK => ?_)
       refine kC Tryz.func65 #[.slice p.a.Ad p.s.drifts.length p.a.md, .int .i64 (wrap64 (wrap64 (11 * round) + (i : Int))), .int .i64 p.c.g] ?_
       rw [hwr.out trivial]
       refine (KP.out _ (HX.out.im.below (below_drew (Below.refl W5.heap.size W5))).dr.C).mono ?_
       rintro e W6 ⟨rfl, hb⟩
       replace HY := am (b_tr HY.out hb)
       clear hb
       refine ⟨_, rfl, ?_⟩
       refine hK.out _ _ (Kp.of HY.out) (fun hHeld => ?_)
       clear hK K
       refine jM 97 ?_
       refine plan_ [.p 22 98, .p 23 99, .p 24 100] ?_
       repeat (first | refine jP ?_ | refine jW hHeld ?_ | refine jG ?_)
       refine planE ?_
       refine jL 25 none (fun K hK => ?_)
       have NX := HX.out.below HY.out
       have y0 := NX.ncell i 3 (.int .i64 x1.ck) HLY.out (by omega) (by rw [HZY.out]; rfl)
       have yf := blk_frozen NX.hn (i * 7 + 3)
       refine skip_ (w1 := W6.setCell ⟨nb, i * 7 + 3, none⟩ (.int .i64 (wrap64 (x1.ck + pickI p.s.drifts (11 * round + (i : Int)) p.c.g)))) (by rfl) rfl (by go_simp; try rfl) ?_
       refine hK.out _ _ ?_
       clear hK K
       refine done_ (by kernel_rfl) ?_
       have h6 := HY.out
       have n6 := HX.out.below HY.out
       have hxe : x2 = { x1 with ck := wrap64 (x1.ck + pickI p.s.drifts (11 * round + (i : Int)) p.c.g) } := by rw [HPOW.out, if_neg HST.out]
       have k7 : Kp (fun k => k = nb) W5 (W6.setCell ⟨nb, i * 7 + 3, none⟩ (.int .i64 (wrap64 (x1.ck + pickI p.s.drifts (11 * round + (i : Int)) p.c.g)))) := (Kp.of (F := fun k => k = nb) h6).set_ (p := ⟨nb, i * 7 + 3, none⟩) (.inl rfl) _
       have b7 := blk_put n6.hn (i * 7 + 3) (.int .i64 (wrap64 (x1.ck + pickI p.s.drifts (11 * round + (i : Int)) p.c.g))) (cs' := (ndsV p.Q (nzy.set i (x2, y))).toArray) (by
        rw [List.setIfInBounds_toArray, ndsV_set p.Q _ i 3 _ (x2, y) HLY.out (by omega) (by rw [HZY.out, hxe]; rfl)])
       have n7 := HX.out.num i HLY.out k7 (fun k e => e) x2 (by rw [HZY.out]; exact b7) (by rw [HZY.out, hxe]) (by rw [HZY.out, hxe]) (by rw [HZY.out, hxe])
       rw [HZY.out] at n7
       have N7 := am n7
       have K7 := am (HKX.out.trans (k7.mono (fun k _ e => hF1.out k e)))
       clear k7 b7 n7 n6 h6 y0 yf NX nn gg hxe
       have hiN := HLN.out
       have hN2 := hN12.out.1
       go_wp2
       go_roundw
       case rel => exact ⟨i + 1, by simp, by omega, ⟨by rw [HNX.out]; exact N7.out⟩, K7⟩
       case measure => simp [intOf]; omega
      ·have hst2 : (x1.st != 0) = false := by simp [bne, hst]
       have HST := am (show x1.st = 0 by simpa using hst)
       go_wp2
       go_roundw
       case rel => exact ⟨i + 1, by simp, by omega, ⟨by
        have hxe : x2 = x1 := by rw [HPOW.out, if_pos HST.out]
        have he : nzy.set i (x1, y) = nzy := by
         rw [← HZY.out]
         apply List.ext_getElem?
         intro n
         by_cases hn : n = i
         ·subst hn
          rw [List.getElem?_set_self HLY.out, gz_at HLY.out, List.getElem?_eq_getElem HLY.out]
         ·rw [List.getElem?_set_ne (fun e => hn e.symm)]
        rw [HNX.out, hxe, he]; exact HX.out⟩, HKX⟩
       case measure => simp [intOf]; omega
    ·obtain rfl : i = p.N := by omega
     go_wp2
     go_end0
     exact ⟨rfl, hN.out, hK.out⟩
end Go.Proofs.YtgcgglmmfgmaoaaGreat.PK
end
section
namespace Go.Proofs.YtgcgglmmfgmaoaaGreat.PK
open Go Go.RowKit Go.Proofs.YtgcgglmmfgmaoaaGreatW.PrintWords Go.Proofs.YtgcgglmmfgmaoaaGreatW.PrintLast Go.Proofs.YtgcgglmmfgmaoaaGreatW.PrintMore
attribute [local go_sem] max2_int min2_int max_two min_two
def slotOf (p : NtP) (x : S52) : Int := if 0 < x.f2 then p.c.n + x.f2 - 1 else x.f1
def callZ (p : NtP) (nz : List Nz) (x : S52) : List Nz × Int :=
 if (gz nz x.f1.toNat).1.st = 0 then (nz, 10)
 else if ¬ x.f1 ∈ p.c.owners (slotOf p x) then (nz, 7)
 else (nz.set x.f1.toNat ({ (gz nz x.f1.toNat).1 with qs := (gz nz x.f1.toNat).1.qs.set (slotOf p x).toNat (((gz nz x.f1.toNat).1.qs.getD (slotOf p x).toNat zQr).send x.f3).1 }, (gz nz x.f1.toNat).2), (((gz nz x.f1.toNat).1.qs.getD (slotOf p x).toNat zQr).send x.f3).2)
theorem callB_spec {c : Cf} {x : S52} (h : callB c x = true) : 0 ≤ x.f0 ∧ x.f0 ≤ 200 ∧ 0 ≤ x.f1 ∧ x.f1 ≤ c.n - 1 ∧ 0 ≤ x.f2 ∧ x.f2 ≤ c.pairs.length := by
 unfold callB inB at h
 simp only [Bool.and_eq_true, decide_eq_true_eq] at h
 obtain ⟨⟨⟨a, b⟩, c, d⟩, e, f⟩ := h
 exact ⟨a, b, c, d, e, f⟩
theorem NB.que {p : NtP} {W W' : World} {nb : Nat} {round : Int} {nz : List Nz} {sv cv : Value} (h : NB p W nb round nz sv cv) (i : Nat) (hi : i < nz.length) {F : Nat → Prop} (hk : Kp F W W') (hF : ∀ k, F k → k = (gz nz i).2.qb) (qs : List Qr)
  (hq : W'.heap[(gz nz i).2.qb]? = some (.cells (qsV qs).toArray 140 (0, 0))) (hl : qs.length = p.Q) (ha : AllQ qs) : NB p W' nb round (nz.set i ({ (gz nz i).1 with qs := qs }, (gz nz i).2)) sv cv := by
 have hz := h.at i hi
 have hft := h.ft i hi (F := F) (fun k e => .inr (hF k e))
 refine h.upd i hi hk (fun k e => .inr (hF k e)) _ ?_ ⟨hq, hl, ha, hz.hg.mt plain_item hk hft (by simp [MT]), hz.hgn, hz.hl⟩ rfl rfl
 ·have hn := hk.blk h.hn (fun e => ne_of_types h.hn hz.hq (by decide) (hF _ e))
  rw [hn]
  have e1 := ndsV_same p.Q nz i ({ (gz nz i).1 with qs := qs }, (gz nz i).2) (gz nz i) rfl
  have e2 : nz.set i (gz nz i) = nz := by
   apply List.ext_getElem?
   intro n
   by_cases hn : n = i
   ·subst hn
    rw [List.getElem?_set_self hi, gz_at hi, List.getElem?_eq_getElem hi]
   ·rw [List.getElem?_set_ne (fun e => hn e.symm)]
  rw [e1, e2]
theorem slotOf_range {p : NtP} (ok : p.OK) {x : S52} (hx : callB p.c x = true) : 0 ≤ slotOf p x ∧ slotOf p x < p.Q := by
 have h := callB_spec hx
 have h6 := ok.hc.n6
 have hQ := ok.hQ
 unfold Cf.slots at hQ
 unfold slotOf
 split <;> omega
theorem net_call (p : NtP) (ok0 : p.OK) (nb : Nat) (round : Int) (nz : List Nz) (sv cv : Value) (x : S52) (hx : callB p.c x = true) (w : World) (hh : NB p w nb round nz sv cv) :
  Calls Tryz.prog 66 #[.pointer (some ⟨p.g, 0, none⟩), .agg #[.int .i64 x.f0, .int .i64 x.f1, .int .i64 x.f2, .int .i64 x.f3]] w fun e w' => e = .returned (.int .i64 (callZ p nz x).2) ∧ NB p w' nb round (callZ p nz x).1 sv cv ∧ Kp (FN nb nz) w w' := by
 have ok := am ok0
 have hsp := callB_spec hx
 have hs := am (show 0 ≤ slotOf p x ∧ slotOf p x < p.Q ∧ p.Q ≤ 15 from ⟨(slotOf_range ok0 hx).1, (slotOf_range ok0 hx).2, by have := slots_range ok0.hc; have := ok0.hQ; omega⟩)
 have hn6 := am (show p.c.n ≤ 12 ∧ p.c.n = p.N ∧ 0 ≤ x.f1 ∧ x.f1 < p.N ∧ 0 ≤ x.f2 ∧ x.f2 ≤ 3 from ⟨ok0.hc.n12, ok0.hN, hsp.2.2.1, by have := ok0.hN; omega, hsp.2.2.2.2.1, by have := ok0.hc.l3; omega⟩)
 have hli := am (show x.f1.toNat < nz.length by rw [hh.hl]; have := hn6.out; omega)
 have HSO : Aside0 (slotOf p x = if 0 < x.f2 then p.c.n + x.f2 - 1 else x.f1) := ⟨rfl⟩
 have HCZ : Aside0 (callZ p nz x = if (gz nz x.f1.toNat).1.st = 0 then (nz, 10) else if ¬ x.f1 ∈ p.c.owners (slotOf p x) then (nz, 7) else (nz.set x.f1.toNat ({ (gz nz x.f1.toNat).1 with qs := (gz nz x.f1.toNat).1.qs.set (slotOf p x).toNat (((gz nz x.f1.toNat).1.qs.getD (slotOf p x).toNat zQr).send x.f3).1 }, (gz nz x.f1.toNat).2), (((gz nz x.f1.toNat).1.qs.getD (slotOf p x).toNat zQr).send x.f3).2)) := ⟨rfl⟩
 have howl := am (owners_len p.c (slotOf p x))
 generalize callZ p nz x = cz at *
 generalize slotOf p x = s at *
 have HF1 := am (fun k (e : k = (gz nz x.f1.toNat).2.qb) => FN.get (nb := nb) hli.out (.inr e))
 generalize FN nb nz = FF at *
 have HH := am hh
 have HB := am (b_al w (.cells #[.int .i64 x.f0, .int .i64 x.f1, .int .i64 x.f2, .int .i64 x.f3] 52))
 have HX := am (hh.below HB.out)
 have HXB := am (blk_new w (.cells #[.int .i64 x.f0, .int .i64 x.f1, .int .i64 x.f2, .int .i64 x.f3] 52))
 have hpr := hn6.out.2.2.2.2.1
 have hpr3 := hn6.out.2.2.2.2.2
 clear hh hx hsp ok0
 go_enter Tryz.func66, Tryz.ntmps66
 go_upto_region 1 with (fail)
 generalize w.alloc (.cells #[.int .i64 x.f0, .int .i64 x.f1, .int .i64 x.f2, .int .i64 x.f3] 52) = W0 at *
 have xx := cells4 HXB.out
 have gg := HX.out.gcells
 clear hpr hpr3
 have hb2 : ∃ b, b = decide (0 < x.f2) := ⟨_, rfl⟩
 obtain ⟨b2, hb2⟩ := hb2
 have HB2 := am hb2
 go_upto_if 10 with (fail)
 go_cut [5] (fun v5 wc => v5 = .int .i64 s ∧ Aside0 (NB p wc nb round nz sv cv) ∧ Aside0 (Below w.heap.size w wc) ∧ Aside0 (wc.heap[w.heap.size]? = some (.cells #[.int .i64 x.f0, .int .i64 x.f1, .int .i64 x.f2, .int .i64 x.f3] 52 (0, 0))))
 case first =>
  rw [← hb2]
  cases b2
  ·go_wp2
   go_meet
   case rel => exact ⟨by rw [HSO.out, if_neg (by have := HB2.out; simpa using this.symm)], HX, HB, HXB⟩
  ·have hw1 := am (show True → wrap64 (wrap64 (p.c.n + x.f2) - 1) = s from fun _ => by
    have := hn6.out
    rw [HSO.out, if_pos (by have := HB2.out; simpa using this.symm), w64_q (p.c.n + x.f2) (by omega) (by omega), w64_q _ (by omega) (by omega)])
   clear hb2
   go_wp2
   refine startB (n := 10) (F := fun _ => False) (ds := []) (by kernel_rfl) rfl (fun hHeld => ?_)
   refine plan_ [.p 0 11, .p 1 12, .p 2 13, .p 3 14, .t 4 15, .p 5 16, .t 6 17, .p 7 18, .p 8 19, .p 9 5] ?_
   repeat (first | refine jP ?_ | refine jW hHeld ?_ | refine jG ?_)
   refine planE ?_
   refine done_ (by kernel_rfl) ?_
   rw [hw1.out trivial]
   clear gg xx
   go_wp2
   go_meet
   case rel => exact ⟨rfl, ⟨HX.out.below (below_drew (Below.refl _ _))⟩, ⟨b_tr HB.out (below_drew (Below.refl _ _))⟩, ⟨HXB.out⟩⟩
 case rest =>
  obtain ⟨rfl, HX, HB, HXB⟩ := hcut
  obtain ⟨W1, hW1⟩ : ∃ W1, W1 = wc := ⟨_, rfl⟩
  subst hW1
  clear hb2 HB2 HSO
  obtain ⟨nx, y, hz⟩ : ∃ nx y, gz nz x.f1.toNat = (nx, y) := ⟨_, _, rfl⟩
  have HZ := am hz
  have xx := cells4 HXB.out
  have gg := HX.out.gcells
  have nn := HX.out.ncells x.f1.toNat hli.out
  rw [hz] at nn
  simp only at nn
  have q0 := eq_true hn6.out.2.2.1
  have q1 := eq_true hn6.out.2.2.2.1
  clear hz
  go_wp2
  refine startB (n := 11) (F := fun _ => False) (ds := []) (by kernel_rfl) rfl (fun hHeld => ?_)
  refine plan_ [.p 0 21, .p 1 22, .p 2 23, .t 3 24, .p 4 25, .t 5 26, .p 6 27, .p 7 28, .t 8 29, .p 9 30, .p 10 20] ?_
  repeat (first | refine jP ?_ | refine jW hHeld ?_ | refine jG ?_)
  refine planE ?_
  refine done_ (by kernel_rfl) ?_
  have n1 := am (HX.out.below (below_drew (Below.refl W1.heap.size W1)))
  have n2 := am (b_tr HB.out (below_drew (Below.refl W1.heap.size W1)))
  have n3 := am (show W1.drew.heap[w.heap.size]? = some (.cells #[.int .i64 x.f0, .int .i64 x.f1, .int .i64 x.f2, .int .i64 x.f3] 52 (0, 0)) from HXB.out)
  clear HX HB HXB gg xx nn hHeld
  have HX := n1
  have HB := n2
  have HXB := n3
  clear n1 n2 n3
  generalize W1.drew = W2 at *
  cases hst : (nx.st == 0)
  ·have HST := am (show ¬ nx.st = 0 by simpa using hst)
   obtain ⟨ow, how⟩ : ∃ ow, ow = p.c.owners s := ⟨_, rfl⟩
   have HOW := am how
   rw [← how] at howl
   obtain ⟨bo, hbo⟩ : ∃ bo, bo = decide (x.f1 ∈ ow) := ⟨_, rfl⟩
   have HBO := am hbo
   have gg := HX.out.gcells
   have xx := cells4 HXB.out
   have HN := am (below_drew (Below.refl W2.heap.size W2))
   have KO := am (fun W hW => by
    have h := owners_calls p.c ok.out.hc s (by have := hs.out; omega) (by have := hs.out; omega) p.A p.m W hW
    rw [← how] at h
    exact h)
   clear how hbo
   go_wp2
   refine startB (n := 11) (F := fun _ => False) (ds := []) (by kernel_rfl) rfl (fun hHeld => ?_)
   refine plan_ [.p 0 32, .p 1 33, .p 2 34, .t 3 35, .p 4 36, .p 6 38, .t 7 39] ?_
   repeat (first | refine jP ?_ | refine jW hHeld ?_ | refine jG ?_)
   refine planE ?_
   refine jO 5 (some 37) (fun K hK => ?_)
   refine kC Tryz.func67 #[p.c.v p.A p.m, .int .i64 s] ?_
   refine (KO.out _ (HX.out.im.below HN.out).C).mono ?_
   rintro e W5 ⟨v5, rfl, hR, hb⟩
   obtain ⟨A5, c5, rfl⟩ := Kd.R_slice hR
   have HR := am (RdT.of_R hR)
   replace HN := am (b_tr HN.out hb)
   clear hb hR
   refine ⟨_, rfl, ?_⟩
   refine hK.out _ _ (Kp.of HN.out) (fun hHeld => ?_)
   clear hK K
   refine jM 37 ?_
   refine jO 8 (some 40) (fun K hK => ?_)
   refine kC Tryz.func76 #[.slice A5 ow.length c5, .int .i64 x.f1] ?_
   refine (contains_calls A5 c5 ow x.f1 (by have := howl.out; omega) _ HR.out.C.1 HR.out.C.2).mono ?_
   rintro e W6 ⟨rfl, hd⟩
   have hb := hd.below
   replace HN := am (b_tr HN.out hb)
   clear hb hd
   refine ⟨_, rfl, ?_⟩
   refine hK.out _ _ (Kp.of HN.out) (fun hHeld => ?_)
   clear hK K
   refine jM 40 ?_
   refine plan_ [.p 9 41, .p 10 31] ?_
   repeat (first | refine jP ?_ | refine jW hHeld ?_ | refine jG ?_)
   refine planE ?_
   refine done_ (by kernel_rfl) ?_
   have n1 := am (HX.out.below HN.out)
   have n2 := am (b_tr HB.out HN.out)
   have n3 := am (blk_below HXB.out HN.out)
   have hbd := HBO.out
   rw [← hbd]
   clear HX HB HXB gg xx hHeld HN HR
   have HX := n1
   have HB := n2
   have HXB := n3
   clear n1 n2 n3
   cases bo
   ·clear hbd
    go_wp2
    go_ret
    have e := HCZ.out
    rw [HZ.out, if_neg HST.out, if_pos (by rw [← HOW.out]; simpa using HBO.out.symm)] at e
    rw [e]
    exact ⟨rfl, HX.out, Kp.of HB.out⟩
   ·clear hbd
    have hat := HX.out.at x.f1.toNat hli.out
    rw [HZ.out] at hat
    have hql := am (show s.toNat * 5 + 5 ≤ (qsV nx.qs).length by rw [qsV_len _ hat.hqa, hat.hqn]; have := hs.out; omega)
    have hsl := am (show s.toNat < nx.qs.length by rw [hat.hqn]; have := hs.out; omega)
    have hq := am (hat.hqa.get s.toNat hsl.out)
    have hqb := am (show W6.heap[y.qb]? = some (.cells (overAt (qsV nx.qs) (s.toNat * 5) (nx.qs.getD s.toNat zQr).cs).toArray 140 (0, 0)) by rw [qsV_over _ _ hat.hqa hsl.out]; exact hat.hq)
    have HAT := am hat
    have gg := HX.out.gcells
    have xx := cells4 HXB.out
    have nn := HX.out.ncells x.f1.toNat hli.out
    rw [HZ.out] at nn
    simp only at nn
    have q2 := eq_true hs.out.1
    have q3 := eq_true hs.out.2.1
    clear hat
    go_wp2
    refine startB (n := 15) (F := fun _ => False) (ds := [13, 14]) (by kernel_rfl) rfl (fun hHeld => ?_)
    refine plan_ [.p 0 42, .p 1 43, .p 2 44, .t 3 45, .p 4 46, .t 5 47, .p 6 48, .p 7 49, .t 8 50, .p 9 51, .p 10 52, .p 11 53, .t 12 54] ?_
    repeat (first | refine jP ?_ | refine jW hHeld ?_ | refine jG ?_)
    refine planE ?_
    refine jL 13 (some 55) (fun K hK => ?_)
    refine kC Tryz.func89 #[.pointer (some ⟨y.qb, s.toNat * 5, none⟩), .int .i64 x.f3] ?_
    refine (queue_Send (nx.qs.getD s.toNat zQr) hq.out x.f3 y.qb (s.toNat * 5) 140 (qsV nx.qs) W6.drew hqb.out hql.out).mono ?_
    rintro e W9 ⟨rfl, h9, k9⟩
    have H9 := am h9
    have K9 := am k9
    clear h9 k9
    refine ⟨_, rfl, ?_⟩
    refine hK.out _ _ ?_
    clear hK K
    refine jM 55 ?_
    refine plan_ [.p 14 4] ?_
    repeat (first | refine jP ?_ | refine jW hHeld ?_ | refine jG ?_)
    refine planE ?_
    refine done_ (by kernel_rfl) ?_
    clear gg xx nn q0 q1 q2 q3
    go_wp2
    go_ret
    have h9 := H9.out
    rw [qsV_put _ _ _ HAT.out.hqa (Qr.send_ok hq.out x.f3) hsl.out] at h9
    have hx9 := (HX.out.below (below_drew (Below.refl W6.heap.size W6))).que x.f1.toNat hli.out K9.out (fun k e => by rw [HZ.out]; exact e) (nx.qs.set s.toNat ((nx.qs.getD s.toNat zQr).send x.f3).1) (by rw [HZ.out]; exact h9) (by rw [List.length_set]; exact HAT.out.hqn) (HAT.out.hqa.set _ _ (Qr.send_ok hq.out x.f3))
    rw [HZ.out] at hx9
    have e := HCZ.out
    rw [HZ.out, if_neg HST.out, if_neg (by rw [← HOW.out]; have := HBO.out.symm; simpa using this)] at e
    rw [e]
    exact ⟨rfl, hx9, ((Kp.of HB.out).then_ (below_drew (Below.refl _ _))).trans (K9.out.mono (fun k _ e => HF1.out k (by rw [HZ.out]; exact e)))⟩
  ·have HST := am (show nx.st = 0 by simpa using hst)
   clear HF1
   go_wp2
   go_ret
   have e := HCZ.out
   rw [HZ.out, if_pos HST.out] at e
   rw [e]
   exact ⟨rfl, HX.out, Kp.of HB.out⟩
end Go.Proofs.YtgcgglmmfgmaoaaGreat.PK
end
section
namespace Go.Proofs.YtgcgglmmfgmaoaaGreat.PK
open Go Go.RowKit Go.Proofs.YtgcgglmmfgmaoaaGreatW.PrintWords Go.Proofs.YtgcgglmmfgmaoaaGreatW.PrintLast Go.Proofs.YtgcgglmmfgmaoaaGreatW.PrintMore
attribute [local go_sem] max2_int min2_int max_two min_two
def hostN (p : NtP) (round : Int) : List S52 → List Nz → List Int → List Nz × List Int
 | [], nz, es => (nz, es)
 | x :: r, nz, es => if x.f0 = round then hostN p round r (callZ p nz x).1 (es ++ [(callZ p nz x).2]) else hostN p round r nz es
def OT (T : Nat) : Prop := T ≠ 87 ∧ T ≠ 90 ∧ T ≠ 140 ∧ T ≠ 3 ∧ T ≠ 52 ∧ T ≠ 83 ∧ T ≠ 55
theorem NB.other {p : NtP} {W W' : World} {nb : Nat} {round : Int} {nz : List Nz} {sv cv : Value} (h : NB p W nb round nz sv cv) {F : Nat → Prop} (hk : Kp F W W') (hF : ∀ k, F k → ∃ cells T, W.heap[k]? = some (.cells cells T (0, 0)) ∧ OT T) : NB p W' nb round nz sv cv := by
 have ne : ∀ {k : Nat} {cells : Array Value} {T : Nat}, W.heap[k]? = some (.cells cells T (0, 0)) → ¬ OT T → ¬ F k := fun {k cells T} hc hT hf => by
  obtain ⟨c2, T2, h2, h3⟩ := hF k hf
  rw [hc] at h2
  simp only [Option.some.injEq, Obj.cells.injEq] at h2
  exact hT (h2.2.1 ▸ h3)
 have rd : ∀ {α : Type} {d : Kd α} {T : Nat} {v : Value} {xs : List α}, Plain d → RdT d T W v xs → ¬ OT T → RdT d T W' v xs := fun hp hr hT => hr.kp hp hk (fun k cells hf hc => ne hc hT hf)
 refine ⟨hk.blk h.hg (ne h.hg (by simp [OT])), hk.blk h.hn (ne h.hn (by simp [OT])), h.hl, fun x hx => ?_, h.hp, ?_⟩
 ·have hz := h.hx x hx
  refine ⟨hk.blk hz.hq (ne hz.hq (by simp [OT])), hz.hqn, hz.hqa, rd plain_item hz.hg (by simp [OT]), hz.hgn, hz.hl⟩
 ·have hi := h.im
  exact ⟨rd plain_int hi.pr (by simp [OT]), rd plain_int hi.on (by simp [OT]), rd plain_int hi.dr (by simp [OT]), rd plain_int hi.er (by simp [OT]), rd plain_call hi.ca (by simp [OT]), rd plain_act hi.ac (by simp [OT]), rd plain_int hi.dv (by simp [OT])⟩
theorem NB.gput {p : NtP} {W W' : World} {nb : Nat} {round round' : Int} {nz : List Nz} {sv cv sv' cv' : Value} (h : NB p W nb round nz sv cv) {F : Nat → Prop} (hk : Kp F W W') (hF : ∀ k, F k → k = p.g) (hg : W'.heap[p.g]? = some (.cells (p.cells round' nb sv' cv').toArray 87 (0, 0))) : NB p W' nb round' nz sv' cv' := by
 have hft : FT F W := fun k hf => by
  have e := hF k hf
  subst e
  exact ⟨_, _, h.hg, by simp [MT]⟩
 refine ⟨hg, hk.blk h.hn (fun e => ne_of_types h.hg h.hn (by decide) (hF _ e).symm), h.hl, fun x hx => ?_, h.hp, h.im.mt hk hft⟩
 have hz := h.hx x hx
 refine ⟨hk.blk hz.hq (fun e => ne_of_types h.hg hz.hq (by decide) (hF _ e).symm), hz.hqn, hz.hqa, hz.hg.mt plain_item hk hft (by simp [MT]), hz.hgn, hz.hl⟩
theorem info_errno : (Tryz.prog.info? 39).map (fun i => (i.zero, i.size, i.bytes)) = some (some (.int .i64 0), 1, 8) := by kernel_rfl
theorem err_keep {T base : Nat} {W W' : World} {v : Value} {xs : List Int} {ok : Nat → Prop} (h : Kd.R (Kd.int .i64) T W base ok v xs) (hb : ∀ g, v.ownBlock = some g → W'.heap[g]? = W.heap[g]?) : Kd.R (Kd.int .i64) T W' base ok v xs := by
 obtain ⟨h0, inner, ho, hr⟩ := h
 refine ⟨h0, inner, ?_, hr⟩
 obtain ⟨h1, h2⟩ := ho
 refine ⟨h1, ?_⟩
 rcases h2 with h2 | ⟨g, cap, cur, hv, hg, hh, r⟩
 ·exact .inl h2
 ·refine .inr ⟨g, cap, cur, hv, hg, ?_, r⟩
  rw [hb g (by rw [hv]; rfl)]; exact hh
theorem Kp.grown_own {a b : World} {row : Option Nat} (hg : a.grownBy b row) : Kp (fun k => some k = row) a b := ⟨hg.os, hg.tape, hg.output, hg.size, fun i hi hn => hg.block i hi hn⟩
theorem R_base {α : Type} {d : Kd α} {e base : Nat} {W : World} {ok : Nat → Prop} {v : Value} {xs : List α} (h : Kd.R d e W base ok v xs) (g : Nat) (hg : v.ownBlock = some g) : base ≤ g := by
 obtain ⟨_, inner, ho, _⟩ := h
 rcases ho.2 with ⟨hv, _⟩ | ⟨g', cap, cur, hv, hb, _⟩
 ·rw [hv] at hg; simp [Value.ownBlock] at hg
 ·rw [hv] at hg
  have : g' = g := by simpa [Value.ownBlock] using hg
  omega
theorem callZ_fn {p : NtP} {nb : Nat} {nz : List Nz} {x : S52} (hi : x.f1.toNat < nz.length) {k : Nat} (h : FN nb (callZ p nz x).1 k) : FN nb nz k := by
 unfold callZ at h
 split at h
 ·exact h
 ·split at h
  ·exact h
  ·simp only at h
   refine FN.set (i := x.f1.toNat) hi ?_ h
   rfl
def FH (p : NtP) (nb : Nat) (nz : List Nz) (k : Nat) : Prop := k = p.g ∨ FN nb nz k
theorem take_call (l : List S52) (k : Nat) (h : k < l.length) : l.drop k = rd_T52 l k :: l.drop (k + 1) := by
 rw [List.drop_eq_getElem_cons h]; simp [rd_T52, List.getD_eq_getElem?_getD, List.getElem?_eq_getElem h]
theorem net_hosts (p : NtP) (ok0 : p.OK) (nb : Nat) (round : Int) (nz : List Nz) (sv cv : Value) (w : World) (h : NB p w nb round nz sv cv) :
  Calls Tryz.prog 43 #[.pointer (some ⟨p.g, 0, none⟩)] w fun e w' => e = .returned (.tuple #[]) ∧ (∃ cv', NB p w' nb round (hostN p round p.s.calls nz []).1 sv cv' ∧ Kd.R (Kd.int .i64) 39 w' w.heap.size (fun _ => True) cv' (hostN p round p.s.calls nz []).2) ∧ Kp (FH p nb nz) w w' := by
 have ok := am ok0
 have HH := am h
 have y0 := (blk_cell h.hg 20).trans rfl
 have yf := blk_frozen h.hg 20
 have hcl := am (show p.s.calls.length ≤ 100 from ok0.hs.ca)
 clear h ok0
 go_enter Tryz.func43, Tryz.ntmps43
 go_upto_region 1 with (fail)
 have HK0 := am ((Kp.refl (fun k => k = p.g) w).set_ (p := ⟨p.g, 20, none⟩) (.inl rfl) (.slice none 0 0))
 have HN0 := am (HH.out.gput (cv' := .slice none 0 0) (round' := round) (sv' := sv) HK0.out (fun k e => e) (blk_put HH.out.hg 20 (.slice none 0 0) (by rfl)))
 clear y0 yf
 generalize w.setCell ⟨p.g, 20, none⟩ (.slice none 0 0) = W1 at *
 have gg := HN0.out.gcells
 go_wp2
 clear gg
 obtain ⟨fin, hfin⟩ : ∃ fin, fin = hostN p round p.s.calls nz [] := ⟨_, rfl⟩
 have HFI := am hfin
 clear hfin
 go_loopw [13] (fun v w' => ∃ i : Nat, v = .int .i64 i ∧ i ≤ p.s.calls.length ∧ Aside0 (∃ nzx es cvx, NB p w' nb round nzx sv cvx ∧ Kd.R (Kd.int .i64) 39 w' w.heap.size (fun _ => True) cvx es ∧ hostN p round (p.s.calls.drop i) nzx es = fin ∧ es.length ≤ i ∧ (∀ k, FN nb nzx k → FN nb nz k)) ∧ Aside0 (Kp (FH p nb nz) w w')) (fun v _ => p.s.calls.length - (intOf v).toNat)
 case atStart => exact ⟨0, rfl, Nat.zero_le _, ⟨nz, [], .slice none 0 0, HN0.out, Kd.R_nil _ _ _ _ _, HFI.out.symm, Nat.le_refl _, fun k h => h⟩, ⟨HK0.out.mono (fun k _ e => .inl e)⟩⟩
 case round =>
  clear HN0 HK0
  obtain ⟨i, rfl, hi, hS, hK⟩ := hrel
  obtain ⟨nzx, es, cvx, hN, hR, hfi, hel, hfn⟩ := hS.out
  by_cases hlt : i < p.s.calls.length
  ·have HN := am hN
   have HR0 := am hR
   have hd := take_call p.s.calls i hlt
   have hmem : callB p.c (rd_T52 p.s.calls (i : Int)) = true := ok.out.hs.cv _ (by
    unfold rd_T52
    rw [Int.toNat_natCast, List.getD_eq_getElem?_getD, List.getElem?_eq_getElem hlt]
    exact List.getElem_mem hlt)
   obtain ⟨ad, hA⟩ := hN.im.ca.ad (by omega)
   have hrt := at_T52 hN.im.ca.C.1 (i : Int) (by omega) (by omega)
   obtain ⟨ad2, hA2, ha0, ha1, ha2, ha3⟩ := hrt
   rw [hA] at hA2
   obtain rfl := Option.some.inj hA2
   rw [Int.toNat_natCast] at ha0 ha1 ha2 ha3
   generalize rd_T52 p.s.calls (i : Int) = x at *
   have hxv := am hmem
   have hes := am (show es.length ≤ 100 by have := hcl.out; omega)
   have HD := am (show hostN p round (x :: p.s.calls.drop (i + 1)) nzx es = fin by rw [← hd]; exact hfi)
   have HFN := am hfn
   have HEL := am hel
   have HLT := am hlt
   have gg := HN.out.gcells
   rw [hA] at gg
   have qi : ((i : Int) < (p.s.calls.length : Int)) = True := eq_true (by omega)
   have hc100 := hcl.out
   clear hd hmem hA2 hi hN hR hfi hel hfn hS
   go_upto_region 4 with (fail)
   have HX := am (HN.out.below (b_al wr (.cells #[.int .i64 x.f0, .int .i64 x.f1, .int .i64 x.f2, .int .i64 x.f3] 52)))
   have HXB := am (blk_new wr (.cells #[.int .i64 x.f0, .int .i64 x.f1, .int .i64 x.f2, .int .i64 x.f3] 52))
   have HRR := am (err_keep HR0.out (W' := wr.alloc (.cells #[.int .i64 x.f0, .int .i64 x.f1, .int .i64 x.f2, .int .i64 x.f3] 52)) (fun g hg => by
    obtain ⟨cells, hc⟩ := Kd.R_typed HR0.out g hg
    exact Below.heap_alloc wr _ g (blk_lt hc)))
   have KX := am (hK.out.then_ (b_al wr (.cells #[.int .i64 x.f0, .int .i64 x.f1, .int .i64 x.f2, .int .i64 x.f3] 52)))
   have hxb := am (show ∀ k, FN nb nzx k → k ≠ wr.heap.size from fun k hk e => by
    subst e
    rcases hk with e | ⟨z, hz, e⟩
    ·have := blk_lt HN.out.hn; omega
    ·have := blk_lt (HN.out.hx z hz).hq; omega)
   have hxbw := am (show w.heap.size ≤ wr.heap.size from hK.out.size)
   clear gg ha0 ha1 ha2 ha3 HN HR0 hK qi hlt hA
   have HR := HRR
   clear HRR
   generalize wr.alloc (.cells #[.int .i64 x.f0, .int .i64 x.f1, .int .i64 x.f2, .int .i64 x.f3] 52) = W2 at *
   generalize wr.heap.size = xb at *
   have gg := HX.out.gcells
   have xx := cells4 HXB.out
   refine startB (n := 7) (F := fun _ => False) (ds := []) (by kernel_rfl) rfl (fun hHeld => ?_)
   refine plan_ [.p 0 17, .t 1 18, .p 2 19, .p 3 20, .p 4 21, .t 5 22, .p 6 23] ?_
   repeat (first | refine jP ?_ | refine jW hHeld ?_ | refine jG ?_)
   refine planE ?_
   refine done_ (by kernel_rfl) ?_
   cases hb : (x.f0 == round)
   ·have hne := am (show ¬ x.f0 = round by simpa using hb)
    clear gg xx hHeld
    have hi9 := HLT.out
    go_wp2
    go_roundw
    case rel => exact ⟨i + 1, by simp, by omega, ⟨nzx, es, cvx, HX.out.below (below_drew (Below.refl _ _)), err_keep HR.out (fun g hg => rfl), by rw [← HD.out, hostN, if_neg hne.out], by have := HEL.out; omega, HFN.out⟩, ⟨KX.out.then_ (below_drew (Below.refl _ _))⟩⟩
    case measure => simp [intOf]; omega
   ·have hne := am (show x.f0 = round by simpa using hb)
    have n1 := am (HX.out.below (below_drew (Below.refl W2.heap.size W2)))
    have n2 := am (show W2.drew.heap[xb]? = some (.cells #[.int .i64 x.f0, .int .i64 x.f1, .int .i64 x.f2, .int .i64 x.f3] 52 (0, 0)) from HXB.out)
    have n3 := am (err_keep HR.out (W' := W2.drew) (fun g hg => rfl))
    have n4 := am (KX.out.then_ (below_drew (Below.refl W2.heap.size W2)))
    clear HX HXB HR KX gg xx hHeld
    have HX := n1
    have HXB := n2
    have HR := n3
    have KX := n4
    clear n1 n2 n3 n4
    generalize W2.drew = W5 at *
    have nfg := am (show ¬ FN nb nzx p.g from fun e => by
     rcases e with e | ⟨z, hz, e⟩
     ·exact ne_of_types HX.out.hg HX.out.hn (by decide) e
     ·exact ne_of_types HX.out.hg (HX.out.hx z hz).hq (by decide) e)
    have nfx := am (show ¬ FN nb nzx xb from fun e => hxb.out xb e rfl)
    have HRn := am (show ∀ g, cvx.ownBlock = some g → g < W5.heap.size ∧ ¬ FN nb nzx g from fun g hg => by
     obtain ⟨cells, hc⟩ := Kd.R_typed HR.out g hg
     refine ⟨blk_lt hc, fun e => ?_⟩
     rcases e with e | ⟨z, hz, e⟩
     ·exact ne_of_types hc HX.out.hn (by decide) e
     ·exact ne_of_types hc (HX.out.hx z hz).hq (by decide) e)
    have HKs := am (show w.heap.size ≤ W5.heap.size from KX.out.size)
    obtain ⟨A3, c3, hcv⟩ := Kd.R_slice HR.out
    subst hcv
    have gg := HX.out.gcells
    have xx := cells4 HXB.out
    clear hb
    go_wp2
    refine startB (n := 13) (F := FN nb nzx) (ds := [9, 12]) (by kernel_rfl) rfl (fun hHeld => ?_)
    refine plan_ [.p 0 24, .p 1 25, .p 2 26, .p 3 27, .t 4 28, .p 5 29, .t 6 30] ?_
    repeat (first | refine jP ?_ | refine jW (hF := by first | exact nfg.out | exact nfx.out) hHeld ?_ | refine jG ?_)
    refine planE ?_
    refine jO 7 (some 31) (fun K hK => ?_)
    refine kC Tryz.func66 #[.pointer (some ⟨p.g, 0, none⟩), .agg #[.int .i64 x.f0, .int .i64 x.f1, .int .i64 x.f2, .int .i64 x.f3]] ?_
    refine (net_call p ok.out nb round nzx sv (.slice A3 es.length c3) x hxv.out W5.drew (HX.out.below (below_drew (Below.refl W5.heap.size W5)))).mono ?_
    rintro e W3 ⟨rfl, h3, k3⟩
    have hHeld2 := hHeld.trans k3
    have H3 := am h3
    have K3 := am hHeld2
    clear h3 k3 hHeld hHeld2
    refine ⟨_, rfl, ?_⟩
    refine hK.out _ _ (K3.out) (fun hHeld => ?_)
    clear hK K
    refine jM 31 ?_
    refine jO 8 (some 32) (fun K hK => ?_)
    have HR3 := am (err_keep HR.out (fun g hg => K3.out.block g (HRn.out g hg).1 (HRn.out g hg).2))
    clear hHeld
    refine value_ (v := .slice (some ⟨W3.heap.size, 0, none⟩) 1 1) (w1 := W3.alloc (.cells #[.int .i64 (callZ p nzx x).2] 39)) (by rfl) rfl (by go_simp; try rfl) ?_
    refine hK.out _ _ (K3.out.then_ (b_al W3 _)) (fun hHeld => ?_)
    clear hK K
    refine jM 32 ?_
    refine jL 9 (some 33) (fun K hK => ?_)
    clear hHeld
    refine Kd.R_append_step (Kd.int .i64) (w0 := W3) (W := W3) w.heap.size (by rfl) (.tmp 28) (.tmp 32) 65 39 (.int .i64 0) 8 rfl Tryz.underlying65 info_errno rfl (by decide) (by omega) _ es (callZ p nzx x).2 [.int .i64 (callZ p nzx x).2] (fun _ => True) (fun _ => False) rfl rfl rfl (fun _ h => h.elim) (fun _ _ => trivial) HR3.out (Below.refl _ _) (Nat.le_trans HKs.out K3.out.size) (by have := hes.out; omega) ?_
    intro v4 W4 hR4 _ hg4 _
    have HR4 := am hR4
    have HG4 := am hg4
    clear hR4 hg4
    obtain ⟨A4, c4, rfl⟩ := Kd.R_slice HR4.out
    refine hK.out _ _ ?_
    clear hK K
    refine jM 33 ?_
    refine plan_ [.p 10 34, .p 11 35] ?_
    repeat (first | refine jP ?_ | refine jW (hF := by first | exact nfg.out | exact nfx.out) hHeld ?_ | refine jG ?_)
    refine planE ?_
    refine jL 12 none (fun K hK => ?_)
    have N4 := H3.out.other (W' := W4) (F := fun k => some k = (Value.slice A3 es.length c3).ownBlock) (Kp.grown_own HG4.out) (fun k hk => by obtain ⟨cells, hc⟩ := Kd.R_typed HR3.out k hk.symm; exact ⟨cells, _, hc, by simp [OT]⟩)
    have y0 := (blk_cell N4.hg 20).trans rfl
    have yf := blk_frozen N4.hg 20
    refine skip_ (w1 := W4.setCell ⟨p.g, 20, none⟩ (.slice A4 (es ++ [(callZ p nzx x).2]).length c4)) (by rfl) rfl (by go_simp; try rfl) ?_
    refine hK.out _ _ ?_
    clear hK K
    refine done_ (by kernel_rfl) ?_
    have NZ := am (N4.gput (cv' := .slice A4 (es ++ [(callZ p nzx x).2]).length c4) (round' := round) (sv' := sv) (W' := W4.setCell ⟨p.g, 20, none⟩ (.slice A4 (es ++ [(callZ p nzx x).2]).length c4)) (F := fun k => k = p.g) ((Kp.refl (fun k => k = p.g) W4).set_ (p := ⟨p.g, 20, none⟩) (.inl rfl) _) (fun k e => e) (blk_put N4.hg 20 _ (by rfl)))
    have RZ := am (err_keep HR4.out (W' := W4.setCell ⟨p.g, 20, none⟩ (.slice A4 (es ++ [(callZ p nzx x).2]).length c4)) (fun g hg => by
     obtain ⟨cells, hc⟩ := Kd.R_typed HR4.out g hg
     exact ((Kp.refl (fun k => k = p.g) W4).set_ (p := ⟨p.g, 20, none⟩) (.inl rfl) _).block g (blk_lt hc) (fun e => ne_of_types N4.hg hc (by decide) e.symm)))
    have KZ := am ((((KX.out.trans (K3.out.mono (fun k _ h => .inr (HFN.out k h)))).grown HG4.out (fun k e => .inr (R_base HR3.out k (by first | exact e | exact e.symm | (rw [← e]; rfl)))))).set_ (p := ⟨p.g, 20, none⟩) (.inl (.inl rfl)) (.slice A4 (es ++ [(callZ p nzx x).2]).length c4))
    have hcx := am (show x.f1.toNat < nzx.length by
     have := callB_spec hxv.out
     have := ok.out.hN
     have := HX.out.hl
     omega)
    clear N4 HR4 HG4 HR3 H3 K3 KX HX HR y0 yf gg xx nfx nfg HRn HXB hxb hxbw
    generalize W4.setCell ⟨p.g, 20, none⟩ (.slice A4 (es ++ [(callZ p nzx x).2]).length c4) = W6 at *
    have hi9 := HLT.out
    go_wp2
    go_roundw
    case rel => exact ⟨i + 1, by simp, by omega, ⟨(callZ p nzx x).1, es ++ [(callZ p nzx x).2], _, NZ.out, RZ.out, by rw [← HD.out, hostN, if_pos hne.out], by have := HEL.out; simp; omega, fun k h => HFN.out k (callZ_fn hcx.out h)⟩, KZ⟩
    case measure => simp [intOf]; omega
  ·have hie : i = p.s.calls.length := by omega
   have HE := am (show hostN p round ([] : List S52) nzx es = fin by rw [← hfi, hie, List.drop_length])
   have HN := am hN
   have HR := am hR
   have gg := HN.out.gcells
   have qi : ((i : Int) < (p.s.calls.length : Int)) = False := eq_false (by omega)
   clear hN hR hfi hel hfn hS hie
   go_wp2
   go_end0
   obtain rfl := HE.out
   rw [← HFI.out]
   exact ⟨rfl, ⟨cvx, HN.out, HR.out⟩, hK.out⟩
end Go.Proofs.YtgcgglmmfgmaoaaGreat.PK
end
section
namespace Go.Proofs.YtgcgglmmfgmaoaaGreat.PK
open Go Go.RowKit Go.Proofs.YtgcgglmmfgmaoaaGreatW.PrintWords Go.Proofs.YtgcgglmmfgmaoaaGreatW.PrintLast Go.Proofs.YtgcgglmmfgmaoaaGreatW.PrintMore
attribute [local go_sem] max2_int min2_int max_two min_two
def zIt : S55 := ⟨0, 0⟩
def echoZ (p : NtP) (x : Nd) : List S55 := if x.got = [] then List.replicate p.Q zIt else x.got
theorem net_echo (p : NtP) (ok0 : p.OK) (nb : Nat) (round : Int) (nz : List Nz) (sv cv : Value) (i : Nat) (hi : i < nz.length) (w : World) (h : NB p w nb round nz sv cv) :
  Calls Tryz.prog 93 #[.pointer (some ⟨p.g, 0, none⟩), .int .i64 i] w fun e w' => ∃ v, e = .returned v ∧ RdT k55 55 w' v (echoZ p (gz nz i).1) ∧ (echoZ p (gz nz i).1).length = p.Q ∧ Below w.heap.size w w' := by
 have HH := am h
 have hli := am hi
 have KS := am (fun W hW => slots_calls p.c ok0.hc p.A p.m W hW)
 have hQ := am (show p.c.slots = p.Q ∧ 6 ≤ p.Q ∧ p.Q ≤ 15 by have := slots_range ok0.hc; have := ok0.hQ; omega)
 obtain ⟨x, y, hz⟩ : ∃ x y, gz nz i = (x, y) := ⟨_, _, rfl⟩
 have hat := h.at i hi
 have gg := h.gcells
 have nn := h.ncells i hi
 rw [hz] at hat nn ⊢
 simp only at hat nn ⊢
 have hl := h.hl
 have hN12 : p.N ≤ 12 := by have := ok0.hc.n12; have := ok0.hN; omega
 have q0 : ((i : Int) < (p.N : Int)) = True := eq_true (by omega)
 rcases hat.hgn with ⟨hg0, hv0⟩ | hg1
 ·have HE := am (show echoZ p x = List.replicate p.Q zIt from if_pos hg0)
  have hmk : ∀ W : World, (Instr.makeSlice 71 (.int .i64 p.c.slots) (.int .i64 p.c.slots)).run Tryz.prog W = .ok (.slice (some ⟨W.heap.size, 0, none⟩) p.Q p.Q) (W.alloc (.cells ((List.replicate p.Q [Value.int .i64 0, .int .i64 0]).flatten.toArray) 55)) := fun W => by
   exact make_run (P := Tryz.prog) 71 55 [.int .i64 0, .int .i64 0] (.agg #[.int .i64 0, .int .i64 0]) 16 Tryz.underlying71 info_item9 rfl (by simp) p.c.slots p.Q hQ.out.1 (by have := hQ.out.2; omega) (by omega) W
  rw [hv0] at nn
  have en := eqly_item 0 0
  clear hat hg0 hv0 hl h hi hz ok0
  go_enter Tryz.func93, Tryz.ntmps93
  go_wp2_with (go_at_call 41; refine (KS.out _ HH.out.im.C).mono ?_; rintro e W3 ⟨rfl, hb⟩; have HB := am hb; clear hb gg nn)
  go_ret
  rw [HE.out]
  exact ⟨_, rfl, RdT.reps (x := zIt) (blk_new W3 _) (by have := hQ.out.2; omega), by simp, b_tr HB.out (b_al _ _)⟩
 ·have HE := am (show echoZ p x = x.got from if_neg (fun e => by rw [e] at hg1; have := hQ.out.2; simp at hg1; omega))
  obtain ⟨A1, m1, hv, hm, hC, hT⟩ := hat.hg
  have hne : x.got ≠ [] := fun e => by rw [e] at hg1; have := hQ.out.2; simp at hg1; omega
  obtain ⟨ad, rfl⟩ : ∃ ad, A1 = some ad := by
   have h9 := hat.hg
   rw [hv] at h9
   exact RdT.ad h9 (by have := hQ.out.2; omega)
  have HR := am (show RdT k55 55 w (.slice (some ad) x.got.length m1) x.got by rw [← hv]; exact hat.hg)
  have HL := am hg1
  rw [hv] at nn
  have en := eqln_item ad x.got.length m1
  clear hat hg1 hv hm hC hT hne hl h hi hz ok0 KS
  go_enter Tryz.func93, Tryz.ntmps93
  go_wp2
  go_ret
  rw [HE.out]
  exact ⟨_, rfl, HR.out, HL.out, Below.refl _ _⟩
def devZ (p : NtP) (round : Int) (nz : List Nz) (o i : Nat) : Int :=
 p.s.f.dev p.c.pi round o i (wrap64 (wrap64 ((gz nz o).1.ck - (gz nz i).1.ck) + pickI p.s.errs (7 * round + 3 * o + i) p.c.e))
theorem net_dev (p : NtP) (ok0 : p.OK) (nb : Nat) (round : Int) (hr0 : 0 ≤ round) (hr1 : round ≤ 1000) (nz : List Nz) (sv cv : Value) (on i_n : Nat) (ho : on < nz.length) (hi : i_n < nz.length) (w : World) (h : NB p w nb round nz sv cv) :
  Calls Tryz.prog 74 #[.pointer (some ⟨p.g, 0, none⟩), .int .i64 on, .int .i64 i_n] w fun e w' => e = .returned (.int .i64 (devZ p round nz on i_n)) ∧ Below w.heap.size w w' := by
 have hN12 := am (show p.N ≤ 12 ∧ nz.length = p.N by have := ok0.hc.n12; have := ok0.hN; have := h.hl; omega)
 obtain ⟨o, hoe⟩ : ∃ o : Int, o = (on : Int) := ⟨_, rfl⟩
 obtain ⟨i, hie⟩ : ∃ i : Int, i = (i_n : Int) := ⟨_, rfl⟩
 have gg := h.gcells
 have n1 := h.ncell on 3 _ ho (by omega) rfl
 have n2 := h.ncell i_n 3 _ hi (by omega) rfl
 obtain ⟨c1, hc1⟩ : ∃ c1, c1 = (gz nz on).1.ck := ⟨_, rfl⟩
 obtain ⟨c2, hc2⟩ : ∃ c2, c2 = (gz nz i_n).1.ck := ⟨_, rfl⟩
 rw [← hc1] at n1
 rw [← hc2] at n2
 have hw1 := am (show True → wrap64 (wrap64 (wrap64 (7 * round) + wrap64 (3 * o)) + i) = 7 * round + 3 * o + i from fun _ => by
  have := hN12.out
  rw [w64_q (7 * round) (by omega) (by omega), w64_q (3 * o) (by omega) (by omega), w64_q (7 * round + 3 * o) (by omega) (by omega), w64_q _ (by omega) (by omega)])
 have KP := am (fun W (hW : RdT (Kd.int .i64) 3 W (.slice p.a.Ae p.s.errs.length p.a.me) p.s.errs) => pick_calls p.s.errs (by have := ok0.hs.er; omega) (7 * round + 3 * o + i) p.c.e ok0.hc.e0 (by have := ok0.hc.e1; omega) p.a.Ae p.a.me W hW.C.1 hW.C.2)
 obtain ⟨dv, hdv⟩ : ∃ dv, dv = wrap64 (wrap64 (c1 - c2) + pickI p.s.errs (7 * round + 3 * o + i) p.c.e) := ⟨_, rfl⟩
 have HDV := am hdv
 have KD := am (fun W hW => fault_Dev p.c.n p.c.pi p.c.e p.c.g p.c.first (.slice p.A p.c.pairs.length p.m) (by have := ok0.hc.p0; have := ok0.hc.e0; have := ok0.hc.g0; omega) (by have := ok0.hc.p1; omega) p.s.f p.a.AA p.a.ma p.a.AD p.a.mD round o i dv (by have := ok0.hs.f.ld; omega) hr0 (by omega) (by have := hN12.out; omega) (by have := hN12.out; omega) W hW)
 have HX := am h
 have HR : Aside0 (devZ p round nz on i_n = p.s.f.dev p.c.pi round o i dv) := ⟨by unfold devZ; rw [HDV.out, hc1, hc2, hoe, hie]⟩
 have q0 : (o < (p.N : Int)) = True := eq_true (by have := hN12.out; omega)
 have q1 : (i < (p.N : Int)) = True := eq_true (by have := hN12.out; omega)
 have q2 : (0 ≤ o) = True := eq_true (by omega)
 have q3 : (0 ≤ i) = True := eq_true (by omega)
 have e1 : on = o.toNat := by omega
 have e2 : i_n = i.toNat := by omega
 rw [e1] at n1
 rw [e2] at n2
 rw [← hoe, ← hie, HR.out]
 clear hoe hie hr0 hr1 h ho hi ok0 hc1 hc2 hdv e1 e2 HR
 generalize p.s.f.dev p.c.pi round o i dv = res at *
 clear hN12
 go_enter Tryz.func74, Tryz.ntmps74
 go_upto_region 1 with (fail)
 have HN := am (below_drew (Below.refl w.heap.size w))
 refine startB (n := 40) (F := fun _ => False) (ds := []) (by kernel_rfl) rfl (fun hHeld => ?_)
 refine plan_ [.p 0 8, .p 1 9, .p 2 10, .t 3 11, .p 4 12, .p 5 13, .p 6 14, .t 7 15, .p 8 16, .p 9 17, .p 10 18, .t 11 19, .p 12 20, .p 13 21, .p 14 22, .t 15 23, .p 16 24, .p 17 25, .p 18 26, .p 19 27, .p 20 28, .t 21 29, .p 22 30, .p 23 31, .p 24 32, .t 25 33, .p 26 34, .p 27 35, .p 28 36, .p 29 37, .p 30 38, .p 31 39, .p 32 40, .p 33 41, .p 34 42, .p 35 43, .t 36 44] ?_
 repeat (first | refine jP ?_ | refine jW hHeld ?_ | refine jG ?_)
 refine planE ?_
 refine jO 37 (some 45) (fun K hK => ?_)
 refine kC Tryz.func65 #[.slice p.a.Ae p.s.errs.length p.a.me, .int .i64 (wrap64 (wrap64 (wrap64 (7 * round) + wrap64 (3 * o)) + i)), .int .i64 p.c.e] ?_
 rw [hw1.out trivial]
 refine (KP.out _ (HX.out.im.below HN.out).er).mono ?_
 rintro e W5 ⟨rfl, hb⟩
 replace HN := am (b_tr HN.out hb)
 clear hb
 refine ⟨_, rfl, ?_⟩
 refine hK.out _ _ (Kp.of HN.out) (fun hHeld => ?_)
 clear hK K
 refine jM 45 ?_
 refine plan_ [.p 38 46, .p 39 7] ?_
 repeat (first | refine jP ?_ | refine jW hHeld ?_ | refine jG ?_)
 refine planE ?_
 refine done_ (by kernel_rfl) ?_
 rw [← HDV.out]
 have n5 := am (HX.out.below HN.out)
 have HB := HN
 clear gg n1 n2 hHeld HX HN q0 q1 q2 q3 KP hw1 HDV
 have HX := n5
 clear n5
 have gg := HX.out.gcells
 go_wp2
 have HN := am (below_drew (Below.refl W5.heap.size W5))
 refine startB (n := 18) (F := fun _ => False) (ds := []) (by kernel_rfl) rfl (fun hHeld => ?_)
 refine plan_ [.p 0 47, .p 1 48, .p 2 49, .t 3 50, .p 4 51, .p 5 52, .p 6 53, .p 7 54, .t 8 55, .p 9 56, .p 10 57, .p 11 58, .t 12 59, .p 13 60, .p 14 61, .p 15 62] ?_
 repeat (first | refine jP ?_ | refine jW hHeld ?_ | refine jG ?_)
 refine planE ?_
 refine jO 16 (some 63) (fun K hK => ?_)
 refine kC Tryz.func99 #[p.c.v p.A p.m, p.s.f.v p.a.AA p.a.ma p.a.AD p.a.mD, .int .i64 round, .int .i64 o, .int .i64 i, .int .i64 dv] ?_
 refine (KD.out _ (HX.out.im.below HN.out).F).mono ?_
 rintro e W6 ⟨rfl, hb⟩
 replace HN := am (b_tr HN.out hb)
 clear hb
 refine ⟨_, rfl, ?_⟩
 refine hK.out _ _ (Kp.of HN.out) (fun hHeld => ?_)
 clear hK K
 refine jM 63 ?_
 refine plan_ [.p 17 6] ?_
 repeat (first | refine jP ?_ | refine jW hHeld ?_ | refine jG ?_)
 refine planE ?_
 refine done_ (by kernel_rfl) ?_
 go_wp2
 go_ret
 exact ⟨rfl, b_tr HB.out HN.out⟩
end Go.Proofs.YtgcgglmmfgmaoaaGreat.PK
end
section
namespace Go.Proofs.YtgcgglmmfgmaoaaGreat.PK
open Go Go.RowKit Go.Proofs.YtgcgglmmfgmaoaaGreatW.PrintWords Go.Proofs.YtgcgglmmfgmaoaaGreatW.PrintLast Go.Proofs.YtgcgglmmfgmaoaaGreatW.PrintMore
attribute [local go_sem] max2_int min2_int max_two min_two
def kindI (st : Int) : Int := if st = 2 then 1 else if st = 3 then 2 else if st = 4 then 3 else 0
theorem sends_calls (st : Int) (w : World) : Calls Tryz.prog 90 #[.int .i64 st] w fun e w' => e = .returned (.int .i64 (kindI st)) ∧ Below w.heap.size w w' := state_Sends.calls st (kindI st) w rfl
theorem kindI_cases (st : Int) : kindI st = 0 ∨ kindI st = 1 ∨ kindI st = 2 ∨ kindI st = 3 := by
 unfold kindI
 (repeat' split) <;> simp
def frameZ (p : NtP) (round : Int) (nz : List Nz) (i : Nat) (s : Int) : Option S117 × List Nz :=
 if kindI (gz nz i).1.st = 0 ∨ (¬ s < p.c.n ∧ kindI (gz nz i).1.st ≠ 3) then (none, nz)
 else if kindI (gz nz i).1.st = 3 then (some ⟨3, p.c.wire round, s, ((gz nz i).1.qs.getD s.toNat zQr).next.2, if s < p.c.n then echoZ p (gz nz i).1 else []⟩, nz.set i ({ (gz nz i).1 with qs := (gz nz i).1.qs.set s.toNat ((gz nz i).1.qs.getD s.toNat zQr).next.1 }, (gz nz i).2))
 else (some ⟨kindI (gz nz i).1.st, p.c.wire round, s, ⟨0, 0⟩, []⟩, nz)
def FrR (p : NtP) (nb : Nat) (round : Int) (nz : List Nz) (sv cv : Value) (i : Nat) (s : Int) (w : World) (e : Ending) (w' : World) : Prop :=
 (∃ (f : S117) (v : Value) (b : Bool), e = .returned (.tuple #[.agg (frV f v), .bool b]) ∧ RdT k55 55 w' v f.f4 ∧ (frameZ p round nz i s).1 = (if b = true then some f else none)) ∧ NB p w' nb round (frameZ p round nz i s).2 sv cv ∧ Kp (FN nb nz) w w'
theorem net_frame (p : NtP) (ok0 : p.OK) (nb : Nat) (round : Int) (hr0 : 0 ≤ round) (hr1 : round ≤ 1000) (nz : List Nz) (sv cv : Value) (i : Nat) (hi : i < nz.length) (s : Int) (hs0 : 0 ≤ s) (hs1 : s < p.Q) (w : World) (h : NB p w nb round nz sv cv) :
  Calls Tryz.prog 68 #[.pointer (some ⟨p.g, 0, none⟩), .int .i64 i, .int .i64 s] w (FrR p nb round nz sv cv i s w) := by
 have ok := am ok0
 have HH := am h
 have hli := am hi
 have hs := am (And.intro hs0 hs1)
 have hN12 := am (show p.N ≤ 12 ∧ nz.length = p.N ∧ p.c.n = p.N ∧ p.Q ≤ 15 by have := ok0.hc.n12; have := ok0.hN; have := h.hl; have := slots_range ok0.hc; have := ok0.hQ; omega)
 have KW := am (fun W hW => wire_calls p.c ok0.hc round hr0 (by omega) p.A p.m W hW)
 obtain ⟨wr_, hwr⟩ : ∃ x, x = p.c.wire round := ⟨_, rfl⟩
 have HWR := am hwr
 rw [← hwr] at KW
 obtain ⟨nx, y, hz⟩ : ∃ x y, gz nz i = (x, y) := ⟨_, _, rfl⟩
 have HZ := am hz
 obtain ⟨k, hk⟩ : ∃ k, k = kindI nx.st := ⟨_, rfl⟩
 have HK := am hk.symm
 have hkc := am (show k = 0 ∨ k = 1 ∨ k = 2 ∨ k = 3 from hk ▸ kindI_cases nx.st)
 have q0 : ((i : Int) < (p.N : Int)) = True := eq_true (by have := hN12.out; omega)
 have HX := am (h.below (b_al w (.cells #[.int .i64 0, .int .i64 0, .int .i64 0, .int .i64 0, .int .i64 0, .slice none 0 0] 117)))
 have HB := am (b_al w (.cells #[.int .i64 0, .int .i64 0, .int .i64 0, .int .i64 0, .int .i64 0, .slice none 0 0] 117))
 have HRB := am (blk_new w (.cells #[.int .i64 0, .int .i64 0, .int .i64 0, .int .i64 0, .int .i64 0, .slice none 0 0] 117))
 have hrs := am (show (w.alloc (.cells #[.int .i64 0, .int .i64 0, .int .i64 0, .int .i64 0, .int .i64 0, .slice none 0 0] 117)).heap.size = w.heap.size + 1 by simp)
 clear hwr hk hz h hi ok0 hs0 hs1 hr0 hr1
 go_enter Tryz.func68, Tryz.ntmps68
 go_upto_region 1 with (fail)
 generalize w.alloc (.cells #[.int .i64 0, .int .i64 0, .int .i64 0, .int .i64 0, .int .i64 0, .slice none 0 0] 117) = W1 at *
 have gg := HX.out.gcells
 have nn := HX.out.ncells i hli.out
 rw [HZ.out] at nn
 simp only at nn
 go_upto_region 2 with (fail)
 have HN := am (below_drew (Below.refl W1.heap.size W1))
 refine startB (n := 18) (F := fun _ => False) (ds := [17]) (by kernel_rfl) rfl (fun hHeld => ?_)
 refine plan_ [.p 0 17, .p 1 18, .p 2 19, .t 3 20, .p 5 22, .p 6 23, .p 7 24, .t 8 25, .p 9 26, .p 10 27, .p 11 28, .t 12 29, .p 14 31] ?_
 repeat (first | refine jP ?_ | refine jW hHeld ?_ | refine jG ?_)
 refine planE ?_
 refine join_ (1) (#[true, true, true, true, true, true, true, true, true, true, true, true, true, true, true, true, true, false]) (fun (s_ : Nat) => [(21, .int .i64 k), (30, .int .i64 wr_), (32, .agg #[.int .i64 k, .int .i64 wr_, .int .i64 s, .int .i64 0, .int .i64 0, .slice none 0 0]), (9, .pointer (some ⟨s_, 0, none⟩))]) (fun (s_ : Nat) (w' : World) => Aside0 (W1.heap.size ≤ s_) ∧ Aside0 (w'.heap[s_]? = some (.cells #[.int .i64 0, .int .i64 0, .int .i64 0, .int .i64 0, .int .i64 0, .slice none 0 0] 117 (0, 0))) ∧ Aside0 (Below W1.heap.size W1 w')) ?_ (fun hJ => ?_)
 rotate_left
 refine twoB (i := 4) (j := 16) rfl rfl rfl rfl (by kernel_rfl) (by decide) (by decide) (fun K hK => ?_) (fun K hK => ?_)
 ·refine kC Tryz.func90 #[.int .i64 nx.st] ?_
  refine (sends_calls nx.st _).mono ?_
  rintro e Wn ⟨rfl, hb⟩
  rw [HK.out]
  have n1_ := am (b_tr HN.out hb)
  first | (replace HF := am (blk_below HF.out hb)) | skip
  clear HN hb
  have HN := n1_
  clear n1_
  refine ⟨_, rfl, ?_⟩
  refine hK.out _ _ (Kp.of HN.out) (fun hHeld => ?_)
  clear hK K
  refine jM 21 ?_
  refine twoB (i := 13) (j := 16) rfl rfl rfl rfl (by kernel_rfl) (by decide) (by decide) (fun K hK => ?_) (fun K hK => ?_)
  ·refine kC Tryz.func91 #[p.c.v p.A p.m, .int .i64 round] ?_
   refine (KW.out _ (HX.out.im.below HN.out).C).mono ?_
   rintro e Wn ⟨rfl, hb⟩
   have n1_ := am (b_tr HN.out hb)
   first | (replace HF := am (blk_below HF.out hb)) | skip
   clear HN hb
   have HN := n1_
   clear n1_
   refine ⟨_, rfl, ?_⟩
   refine hK.out _ _ (Kp.of HN.out) (fun hHeld => ?_)
   clear hK K
   refine jM 30 ?_
   refine plan_ [.p 15 32] ?_
   repeat (first | refine jP ?_ | refine jW hHeld ?_ | refine jG ?_)
   refine planE ?_
   refine jO 16 (some 9) (fun K hK => ?_)
   refine alloc_ev (.cells #[.int .i64 0, .int .i64 0, .int .i64 0, .int .i64 0, .int .i64 0, .slice none 0 0] 117) (by rfl) rfl (fun w' => by go_simp; try rfl) (fun xb Wn hxe hxb hb => ?_)
   have HS := am (Nat.le_trans HN.out.size hxe)
   have n1_ := am (b_tr HN.out hb)
   first | (replace HF := am (blk_below HF.out hb)) | skip
   clear HN hb
   have HN := n1_
   clear n1_
   have HF := am hxb
   clear hxb hxe
   refine hK.out _ _ (Kp.of HN.out) (fun hHeld => ?_)
   clear hK K
   refine jM 9 ?_
   exact goJ (by kernel_rfl) (by simp only [putAll, s0, s1, s2, s3]) (hJ _ _ ⟨HS, HF, HN⟩)
  ·refine alloc_ev (.cells #[.int .i64 0, .int .i64 0, .int .i64 0, .int .i64 0, .int .i64 0, .slice none 0 0] 117) (by rfl) rfl (fun w' => by go_simp; try rfl) (fun xb Wn hxe hxb hb => ?_)
   have HS := am (Nat.le_trans HN.out.size hxe)
   have n1_ := am (b_tr HN.out hb)
   first | (replace HF := am (blk_below HF.out hb)) | skip
   clear HN hb
   have HN := n1_
   clear n1_
   have HF := am hxb
   clear hxb hxe
   refine hK.out _ _ (Kp.of HN.out) (fun hHeld => ?_)
   clear hK K
   refine jM 9 ?_
   refine jO 13 (some 30) (fun K hK => ?_)
   refine kC Tryz.func91 #[p.c.v p.A p.m, .int .i64 round] ?_
   refine (KW.out _ (HX.out.im.below HN.out).C).mono ?_
   rintro e Wn ⟨rfl, hb⟩
   have n1_ := am (b_tr HN.out hb)
   first | (replace HF := am (blk_below HF.out hb)) | skip
   clear HN hb
   have HN := n1_
   clear n1_
   refine ⟨_, rfl, ?_⟩
   refine hK.out _ _ (Kp.of HN.out) (fun hHeld => ?_)
   clear hK K
   refine jM 30 ?_
   refine plan_ [.p 15 32] ?_
   repeat (first | refine jP ?_ | refine jW hHeld ?_ | refine jG ?_)
   refine planE ?_
   exact goJ (by kernel_rfl) (by simp only [putAll, s0, s1, s2, s3]) (hJ _ _ ⟨HS, HF, HN⟩)
 ·refine alloc_ev (.cells #[.int .i64 0, .int .i64 0, .int .i64 0, .int .i64 0, .int .i64 0, .slice none 0 0] 117) (by rfl) rfl (fun w' => by go_simp; try rfl) (fun xb Wn hxe hxb hb => ?_)
  have HS := am (Nat.le_trans HN.out.size hxe)
  have n1_ := am (b_tr HN.out hb)
  first | (replace HF := am (blk_below HF.out hb)) | skip
  clear HN hb
  have HN := n1_
  clear n1_
  have HF := am hxb
  clear hxb hxe
  refine hK.out _ _ (Kp.of HN.out) (fun hHeld => ?_)
  clear hK K
  refine jM 9 ?_
  refine jO 4 (some 21) (fun K hK => ?_)
  refine kC Tryz.func90 #[.int .i64 nx.st] ?_
  refine (sends_calls nx.st _).mono ?_
  rintro e Wn ⟨rfl, hb⟩
  rw [HK.out]
  have n1_ := am (b_tr HN.out hb)
  first | (replace HF := am (blk_below HF.out hb)) | skip
  clear HN hb
  have HN := n1_
  clear n1_
  refine ⟨_, rfl, ?_⟩
  refine hK.out _ _ (Kp.of HN.out) (fun hHeld => ?_)
  clear hK K
  refine jM 21 ?_
  refine jO 13 (some 30) (fun K hK => ?_)
  refine kC Tryz.func91 #[p.c.v p.A p.m, .int .i64 round] ?_
  refine (KW.out _ (HX.out.im.below HN.out).C).mono ?_
  rintro e Wn ⟨rfl, hb⟩
  have n1_ := am (b_tr HN.out hb)
  first | (replace HF := am (blk_below HF.out hb)) | skip
  clear HN hb
  have HN := n1_
  clear n1_
  refine ⟨_, rfl, ?_⟩
  refine hK.out _ _ (Kp.of HN.out) (fun hHeld => ?_)
  clear hK K
  refine jM 30 ?_
  refine plan_ [.p 15 32] ?_
  repeat (first | refine jP ?_ | refine jW hHeld ?_ | refine jG ?_)
  refine planE ?_
  exact goJ (by kernel_rfl) (by simp only [putAll, s0, s1, s2, s3]) (hJ _ _ ⟨HS, HF, HN⟩)
 rintro fb W2 ⟨HS, HF, HN⟩
 have hHeld := Kp.of (F := fun _ => False) HN.out
 refine norm_ (a' := _) (by simp only [putAll, s0, s1, s2, s3]; rfl) ?_
 refine jL 17 none (fun K hK => ?_)
 refine store_ev (by rfl) rfl _ _ _ rfl fb 0 117 #[.int .i64 k, .int .i64 wr_, .int .i64 s, .int .i64 0, .int .i64 0, .slice none 0 0] [.int .i64 0, .int .i64 0, .int .i64 0, .int .i64 0, .int .i64 0, .slice none 0 0] rfl (by rfl) HF.out (by simp) info_frame (by simp [Value.oneCell']) (fun W3 h3 k3 => ?_)
 have HF3 := am h3
 have K3 := am k3
 clear h3 k3
 refine hK.out _ _ ?_
 clear hK K
 refine done_ (by kernel_rfl) ?_
 have hHeld2 := hHeld
 have hc3 : W3.heap[fb]? = some (.cells #[.int .i64 k, .int .i64 wr_, .int .i64 s, .int .i64 0, .int .i64 0, .slice none 0 0] 117 (0, 0)) := HF3.out
 have HF := am hc3
 have BX := am (below_kp HN.out K3.out HS.out HN.out.size)
 have n1 := am (HX.out.below BX.out)
 have n2 := am (b_tr HB.out BX.out)
 have n3 := am (blk_below HRB.out BX.out)
 have hfr := am (show w.heap.size < fb by have := hrs.out; have := HS.out; omega)
 clear HF3 hc3 K3 HN BX HX HB HRB hHeld hHeld2 gg nn KW hrs HS
 have HX := n1
 have HB := n2
 have HRB := n3
 clear n1 n2 n3
 have gg := HX.out.gcells
 obtain ⟨ow, how⟩ : ∃ ow, ow = decide (s < p.c.n) := ⟨_, rfl⟩
 have HOW := am how
 have ff := cells6 HF.out
 go_upto_region 4 with (fail)
 rw [← how]
 clear how gg
 have hu := Tryz.underlying117
 have HFZ : Aside0 (frameZ p round nz i s = if k = 0 ∨ (¬ s < p.c.n ∧ k ≠ 3) then (none, nz)
  else if k = 3 then (some ⟨3, wr_, s, (nx.qs.getD s.toNat zQr).next.2, if s < p.c.n then echoZ p nx else []⟩, nz.set i ({ nx with qs := nx.qs.set s.toNat (nx.qs.getD s.toNat zQr).next.1 }, y))
  else (some ⟨k, wr_, s, ⟨0, 0⟩, []⟩, nz)) := ⟨by unfold frameZ; rw [HZ.out]; simp only; rw [HK.out, HWR.out]⟩
 have hk01 : k = 3 ∨ k ≠ 3 := by omega
 rcases hk01 with rfl | hk3
 ·clear hkc
  have hat := HX.out.at i hli.out
  rw [HZ.out] at hat
  have hql := am (show s.toNat * 5 + 5 ≤ (qsV nx.qs).length by rw [qsV_len _ hat.hqa, hat.hqn]; have := hs.out; omega)
  have hsl := am (show s.toNat < nx.qs.length by rw [hat.hqn]; have := hs.out; omega)
  have hq := am (hat.hqa.get s.toNat hsl.out)
  have hqb := am (show W3.heap[y.qb]? = some (.cells (overAt (qsV nx.qs) (s.toNat * 5) (nx.qs.getD s.toNat zQr).cs).toArray 140 (0, 0)) by rw [qsV_over _ _ hat.hqa hsl.out]; exact hat.hq)
  have HAT := am hat
  have nn := HX.out.ncells i hli.out
  rw [HZ.out] at nn
  simp only at nn
  have q2 := eq_true hs.out.1
  have q3 := eq_true hs.out.2
  have hqbl := am (show y.qb ≠ fb ∧ y.qb ≠ w.heap.size from ⟨fun e => ne_of_types hat.hq HF.out (by decide) e, fun e => ne_of_types hat.hq HRB.out (by decide) e⟩)
  clear hat
  obtain ⟨q, hqe⟩ : ∃ q, q = nx.qs.getD s.toNat zQr := ⟨_, rfl⟩
  rw [← hqe] at hq hqb HFZ
  have KQ := am (queue_Next q hq.out y.qb (s.toNat * 5) 140 (qsV nx.qs) W3 hqb.out hql.out)
  obtain ⟨qn, hqn⟩ : ∃ qn, qn = q.next.1 := ⟨_, rfl⟩
  obtain ⟨⟨qa, qb⟩, hqi⟩ : ∃ qi : S55, qi = q.next.2 := ⟨_, rfl⟩
  rw [← hqn, ← hqi] at KQ HFZ
  simp only at KQ
  have HQN := am (show qn.OK from hqn ▸ Qr.next_ok hq.out)
  clear hqe hqn hqi
  cases ow
  all_goals
   go_upto_region 8 with (first
   | (go_at_call 92; refine KQ.out.mono ?_; rintro e W4 ⟨rfl, h4, k4⟩; have H4 := am h4; have K4 := am k4; clear h4 k4 nn; have HF4 := am (K4.out.blk HF.out (fun e => hqbl.out.1 e.symm)); have HRB4 := am (K4.out.blk HRB.out (fun e => hqbl.out.2 e.symm)); have ff := cells6 HF4.out)
   | ((with_reducible refine gate_ (.store 55 (.tmp 63) (.tmp 62)) rfl ?_); refine store_part rfl 55 (.tmp 63) (.tmp 62) rfl (fb) 3 117 #[.int .i64 qa, .int .i64 qb] [.int .i64 3, .int .i64 wr_, .int .i64 s, .int .i64 0, .int .i64 0, .slice none 0 0] rfl rfl HF4.out (by simp) info_item2 (by simp [Value.oneCell']) ?_; intro W5 H5_ K5_; have H5 := am H5_; have K5 := am K5_; clear H5_ K5_))
   have h4 := H4.out
   rw [qsV_put _ _ _ HAT.out.hqa HQN.out hsl.out] at h4
   have hx4 := HX.out.que i hli.out K4.out (fun k e => by rw [HZ.out]; exact e) (nx.qs.set s.toNat qn) (by rw [HZ.out]; exact h4) (by rw [List.length_set]; exact HAT.out.hqn) (HAT.out.hqa.set _ _ HQN.out)
   rw [HZ.out] at hx4
   have n1 := am (hx4.other K5.out (fun k e => by subst e; exact ⟨_, _, HF4.out, by simp [OT]⟩))
   have n2 := am (show W5.heap[fb]? = some (.cells #[.int .i64 3, .int .i64 wr_, .int .i64 s, .int .i64 qa, .int .i64 qb, .slice none 0 0] 117 (0, 0)) from H5.out)
   have n3 := am (K5.out.blk HRB4.out (fun e => by have := hfr.out; omega))
   have n4 := am (((Kp.of (F := FN nb nz) HB.out).trans (K4.out.mono (fun k _ e => FN.get hli.out (.inr (by rw [HZ.out]; exact e))))).trans' K5.out (Nat.le_of_lt hfr.out))
   clear h4 hx4 H4 K4 K5 H5 HF4 HRB4 HF HRB HX HB KQ hq hqb hql hqbl q2 q3 ff
   have HX := n1
   have HF := n2
   have HRB := n3
   have KW := n4
   clear n1 n2 n3 n4
  ·have ff := cells6 HF.out
   go_wp2_with (((with_reducible refine gate_ (.store 117 (.tmp 6) (.tmp 69)) rfl ?_); refine store_part rfl 117 (.tmp 6) (.tmp 69) rfl (w.heap.size) 0 117 #[.int .i64 3, .int .i64 wr_, .int .i64 s, .int .i64 qa, .int .i64 qb, .slice none 0 0] [.int .i64 0, .int .i64 0, .int .i64 0, .int .i64 0, .int .i64 0, .slice none 0 0] rfl rfl HRB.out (by simp) info_frame (by simp [Value.oneCell']) ?_; intro W6 HG_ KG_; have HG := am HG_; have KG := am KG_; clear HG_ KG_))
   have hz := HFZ.out
   have h9 : ¬ s < p.c.n := by have := HOW.out; simpa using this.symm
   rw [if_neg (fun e9 => by rcases e9 with e | ⟨_, e⟩; omega; exact e rfl), if_pos (by first | rfl | trivial), if_neg h9] at hz
   exact bodyPost_ret (v := .tuple #[.agg (frV ⟨3, wr_, s, ⟨qa, qb⟩, []⟩ (.slice none 0 0)), .bool true]) (results_ct Tryz.results68 _ W6 _ _ _ _ _ rfl HG.out hu rfl info_frame) rfl ⟨⟨_, _, _, rfl, RdT.nil _ _ _, by rw [hz]; rfl⟩, by rw [hz]; exact HX.out.other KG.out (fun k e => by subst e; exact ⟨_, _, HRB.out, by simp [OT]⟩), KW.out.trans' KG.out (Nat.le_refl _)⟩
  ·have KE := am (net_echo p ok.out nb round _ sv cv i (by rw [List.length_set]; exact hli.out) W5 HX.out)
   have hee : echoZ p (gz (nz.set i ({ nx with qs := nx.qs.set s.toNat qn }, y)) i).1 = echoZ p nx := by rw [gz_set _ hli.out]; rfl
   rw [hee] at KE
   clear hee
   have hee := am (show (echoZ p nx) = echoZ p nx from rfl)
   obtain ⟨ec, hec⟩ : ∃ ec, ec = echoZ p nx := ⟨_, rfl⟩
   rw [← hec] at KE HFZ
   clear hee hec
   go_upto_region 10 with (first
    | (go_at_call 93; refine KE.out.mono ?_; rintro e W6 ⟨v, rfl, hR, hl, hb⟩; obtain ⟨A9, m9, hv, -⟩ := id hR; subst hv; have HR := am hR; have n1 := am (blk_below HF.out hb); have n2 := am (blk_below HRB.out hb); have n3 := am (HX.out.below hb); have n4 := am (KW.out.then_ hb); clear HF HRB HX KW hR hb hl; have HF := n1; have HRB := n2; have HX := n3; have KW := n4; clear n1 n2 n3 n4; have y5 := (blk_cell HF.out 5).trans rfl; have yf := blk_frozen HF.out 5)
    | fail)
   have k7 := (Kp.refl (fun k => k = fb) W6).set_ (p := ⟨fb, 5, none⟩) (.inl rfl) (.slice A9 ec.length m9)
   have n1 := am (blk_put HF.out 5 (.slice A9 ec.length m9) (cs' := #[.int .i64 3, .int .i64 wr_, .int .i64 s, .int .i64 qa, .int .i64 qb, .slice A9 ec.length m9]) (by simp))
   have n2 := am (k7.blk HRB.out (fun e => by have := hfr.out; omega))
   have n3 := am (HX.out.other k7 (fun k e => by subst e; exact ⟨_, _, HF.out, by simp [OT]⟩))
   have n4 := am (KW.out.trans' k7 (Nat.le_of_lt hfr.out))
   have n5 := am (HR.out.kp plain_item k7 (fun k cells e hc => by subst e; exact ne_of_types HF.out hc (by decide) rfl))
   clear HF HRB HX KW HR k7 y5 yf KE
   have HF := n1
   have HRB := n2
   have HX := n3
   have KW := n4
   have HR := n5
   clear n1 n2 n3 n4 n5
   generalize W6.setCell ⟨fb, 5, none⟩ (.slice A9 ec.length m9) = W7 at *
   have ff := cells6 HF.out
   go_wp2_with (((with_reducible refine gate_ (.store 117 (.tmp 6) (.tmp 69)) rfl ?_); refine store_part rfl 117 (.tmp 6) (.tmp 69) rfl (w.heap.size) 0 117 #[.int .i64 3, .int .i64 wr_, .int .i64 s, .int .i64 qa, .int .i64 qb, .slice A9 ec.length m9] [.int .i64 0, .int .i64 0, .int .i64 0, .int .i64 0, .int .i64 0, .slice none 0 0] rfl rfl HRB.out (by simp) info_frame (by simp [Value.oneCell']) ?_; intro W8 HG_ KG_; have HG := am HG_; have KG := am KG_; clear HG_ KG_))
   have hz := HFZ.out
   have h9 : s < p.c.n := by have := HOW.out; simpa using this.symm
   rw [if_neg (fun e9 => by rcases e9 with e | ⟨_, e⟩; omega; exact e rfl), if_pos (by first | rfl | trivial), if_pos h9] at hz
   exact bodyPost_ret (v := .tuple #[.agg (frV ⟨3, wr_, s, ⟨qa, qb⟩, ec⟩ (.slice A9 ec.length m9)), .bool true]) (results_ct Tryz.results68 _ W8 _ _ _ _ _ rfl HG.out hu rfl info_frame) rfl ⟨⟨_, _, _, rfl, HR.out.kp plain_item KG.out (fun k cells e hc => by subst e; exact ne_of_types HRB.out hc (by decide) rfl), by rw [hz]; rfl⟩, by rw [hz]; exact HX.out.other KG.out (fun k e => by subst e; exact ⟨_, _, HRB.out, by simp [OT]⟩), KW.out.trans' KG.out (Nat.le_refl _)⟩
 ·have h0 : (k == 0) = true ∨ (k == 0) = false := by cases (k == 0) <;> simp
  have k3 : (k == 3) = false := by simpa using hk3
  have k3' : (k != 3) = true := by simpa using hk3
  have HK3 := am hk3
  clear hkc hk3
  rcases h0 with h0 | h0
  ·have HK0 := am (show k = 0 by simpa using h0)
   go_wp2_with (((with_reducible refine gate_ (.store 117 (.tmp 6) (.tmp 52)) rfl ?_); refine store_part rfl 117 (.tmp 6) (.tmp 52) rfl (w.heap.size) 0 117 #[.int .i64 k, .int .i64 wr_, .int .i64 s, .int .i64 0, .int .i64 0, .slice none 0 0] [.int .i64 0, .int .i64 0, .int .i64 0, .int .i64 0, .int .i64 0, .slice none 0 0] rfl rfl HRB.out (by simp) info_frame (by simp [Value.oneCell']) ?_; intro W4 HG_ KG_; have HG := am HG_; have KG := am KG_; clear HG_ KG_))
   have BW2 := am (below_kp HB.out KG.out (Nat.le_refl _) HB.out.size)
   have hz := HFZ.out
   rw [if_pos (.inl HK0.out)] at hz
   exact bodyPost_ret (v := .tuple #[.agg (frV ⟨k, wr_, s, ⟨0, 0⟩, []⟩ (.slice none 0 0)), .bool false]) (results_ct Tryz.results68 _ W4 _ _ _ _ _ rfl HG.out hu rfl info_frame) rfl ⟨⟨_, _, _, rfl, RdT.nil _ _ _, by rw [hz]; rfl⟩, by rw [hz]; exact HH.out.below BW2.out, Kp.of BW2.out⟩
  ·have HK0 := am (show ¬ k = 0 by simpa using h0)
   cases ow
   ·go_wp2_with (((with_reducible refine gate_ (.store 117 (.tmp 6) (.tmp 52)) rfl ?_); refine store_part rfl 117 (.tmp 6) (.tmp 52) rfl (w.heap.size) 0 117 #[.int .i64 k, .int .i64 wr_, .int .i64 s, .int .i64 0, .int .i64 0, .slice none 0 0] [.int .i64 0, .int .i64 0, .int .i64 0, .int .i64 0, .int .i64 0, .slice none 0 0] rfl rfl HRB.out (by simp) info_frame (by simp [Value.oneCell']) ?_; intro W4 HG_ KG_; have HG := am HG_; have KG := am KG_; clear HG_ KG_))
    have BW2 := am (below_kp HB.out KG.out (Nat.le_refl _) HB.out.size)
    have hz := HFZ.out
    rw [if_pos (.inr ⟨by have := HOW.out; simpa using this.symm, HK3.out⟩)] at hz
    exact bodyPost_ret (v := .tuple #[.agg (frV ⟨k, wr_, s, ⟨0, 0⟩, []⟩ (.slice none 0 0)), .bool false]) (results_ct Tryz.results68 _ W4 _ _ _ _ _ rfl HG.out hu rfl info_frame) rfl ⟨⟨_, _, _, rfl, RdT.nil _ _ _, by rw [hz]; rfl⟩, by rw [hz]; exact HH.out.below BW2.out, Kp.of BW2.out⟩
   ·go_wp2_with (((with_reducible refine gate_ (.store 117 (.tmp 6) (.tmp 69)) rfl ?_); refine store_part rfl 117 (.tmp 6) (.tmp 69) rfl (w.heap.size) 0 117 #[.int .i64 k, .int .i64 wr_, .int .i64 s, .int .i64 0, .int .i64 0, .slice none 0 0] [.int .i64 0, .int .i64 0, .int .i64 0, .int .i64 0, .int .i64 0, .slice none 0 0] rfl rfl HRB.out (by simp) info_frame (by simp [Value.oneCell']) ?_; intro W4 HG_ KG_; have HG := am HG_; have KG := am KG_; clear HG_ KG_))
    have BW2 := am (below_kp HB.out KG.out (Nat.le_refl _) HB.out.size)
    have hz := HFZ.out
    rw [if_neg (fun e9 => by rcases e9 with e | ⟨e, _⟩; exact HK0.out e; (have h9 : s < p.c.n := (by have := HOW.out; simpa using this.symm)); omega), if_neg HK3.out] at hz
    exact bodyPost_ret (v := .tuple #[.agg (frV ⟨k, wr_, s, ⟨0, 0⟩, []⟩ (.slice none 0 0)), .bool true]) (results_ct Tryz.results68 _ W4 _ _ _ _ _ rfl HG.out hu rfl info_frame) rfl ⟨⟨_, _, _, rfl, RdT.nil _ _ _, by rw [hz]; rfl⟩, by rw [hz]; exact HH.out.below BW2.out, Kp.of BW2.out⟩
end Go.Proofs.YtgcgglmmfgmaoaaGreat.PK
end
section
namespace Go.Proofs.YtgcgglmmfgmaoaaGreat.PK
open Go Go.RowKit Go.Proofs.YtgcgglmmfgmaoaaGreatW.PrintWords Go.Proofs.YtgcgglmmfgmaoaaGreatW.PrintLast Go.Proofs.YtgcgglmmfgmaoaaGreatW.PrintMore
attribute [local go_sem] max2_int min2_int max_two min_two
theorem RdT.ints {W : World} {b : Nat} {l : List Int} (h : W.heap[b]? = some (.cells (l.map (Value.int .i64)).toArray 3 (0, 0))) (hl : l.length ≤ 100000) : RdT (Kd.int .i64) 3 W (.slice (some ⟨b, 0, none⟩) l.length l.length) l := by
 refine ⟨_, _, rfl, Nat.le_refl _, ⟨rfl, by omega, fun _ => ⟨_, rfl, fun j x hj => ?_⟩⟩, fun ad hA => ?_⟩
 ·refine ⟨[.int .i64 x], rfl, rfl, fun i u hi => ?_⟩
  have hi2 : i < 1 := (List.getElem?_eq_some_iff.1 hi).1
  obtain rfl : i = 0 := by omega
  rw [add_plain, blk_cell h, List.getElem?_toArray]
  simp only [show (Kd.int .i64).sz = 1 from rfl, Nat.mul_one, Nat.add_zero, Nat.zero_add, List.getElem?_map, hj] at hi ⊢
  simpa using hi
 ·obtain rfl := Option.some.inj hA
  exact ⟨_, h⟩
theorem info_int9 : (Tryz.prog.info? 3).map (fun i => (i.zero, i.size, i.bytes)) = some (some (.int .i64 0), 1, 8) := by kernel_rfl
theorem flat_one9 {α : Type} (x : α) : ∀ n : Nat, (List.replicate n [x]).flatten = List.replicate n x
 | 0 => rfl
 | n + 1 => by rw [List.replicate_succ, List.flatten_cons, flat_one9 x n, List.replicate_succ]; rfl
def fillI (l : List Int) (k N : Nat) : List Int := l.take k ++ List.replicate (N - k) 0
theorem fillI_len {l : List Int} {k N : Nat} (h : l.length = N) (hk : k ≤ N) : (fillI l k N).length = N := by unfold fillI; simp; omega
theorem fillI_step {l : List Int} {k N : Nat} (h : l.length = N) (hk : k < N) : (fillI l k N).set k (rd l k) = fillI l (k + 1) N := by
 unfold fillI
 rw [List.set_append_right _ _ (by simp; omega), show N - k = (N - (k + 1)) + 1 by omega, List.replicate_succ, take_rd l k (by omega), List.append_assoc]
 congr 1
 rw [show k - (l.take k).length = 0 by simp; omega, List.set_cons_zero]
 rfl
theorem fillI_put {l : List Int} {k N : Nat} (h : l.length = N) (hk : k < N) : ((fillI l k N).map (Value.int .i64)).toArray.setIfInBounds k (.int .i64 (rd l k)) = ((fillI l (k + 1) N).map (Value.int .i64)).toArray := by
 rw [List.setIfInBounds_toArray, ← fillI_step h hk, List.map_set]
theorem each_states (p : NtP) (ok0 : p.OK) (nb : Nat) (round : Int) (nz : List Nz) (sv cv : Value) (w : World) (h : NB p w nb round nz sv cv) (l : List Int) (hl : l.length = p.N) (g0 : Nat)
  (hc : ∀ (i : Nat) W, i < p.N → Below w.heap.size w W → Calls Tryz.prog 71 (#[.int .i64 i] ++ #[.pointer (some ⟨g0, 0, none⟩)]) W fun e w' => e = .returned (.int .i64 (rd l i)) ∧ Below W.heap.size W w') :
  Calls Tryz.prog 70 #[.pointer (some ⟨p.g, 0, none⟩), .func (.func 71) #[] #[.pointer (some ⟨g0, 0, none⟩)]] w fun e w' => ∃ v, e = .returned v ∧ RdT (Kd.int .i64) 3 w' v l ∧ Below w.heap.size w w' := by
 have HH := am h
 have HC := am hc
 have HL := am hl
 have hN := am (show p.N ≤ 12 by have := ok0.hc.n12; have := ok0.hN; omega)
 have gg := h.gcells
 have hmk : ∀ W : World, (Instr.makeSlice 22 (.int .i64 (p.N : Int)) (.int .i64 (p.N : Int))).run Tryz.prog W = .ok (.slice (some ⟨W.heap.size, 0, none⟩) p.N p.N) (W.alloc (.cells ((fillI l 0 p.N).map (Value.int .i64)).toArray 3)) := fun W => by
  have h := make_run (P := Tryz.prog) 22 3 [.int .i64 0] (.int .i64 0) 8 Tryz.underlying22 info_int9 rfl (by simp) p.N p.N rfl (by have := hN.out; omega) (by omega) W
  rw [h, flat_one9]; unfold fillI; simp
 clear h hc hl ok0
 go_enter Tryz.func70, Tryz.ntmps70
 go_upto_region 2 with (fail)
 have HE := am (blk_new w (.cells ((fillI l 0 p.N).map (Value.int .i64)).toArray 3))
 have HB := am (b_al w (.cells ((fillI l 0 p.N).map (Value.int .i64)).toArray 3))
 clear gg hmk
 generalize w.alloc (.cells ((fillI l 0 p.N).map (Value.int .i64)).toArray 3) = W0 at *
 go_wp2
 go_loopw [15] (fun v w' => ∃ k : Nat, v = .int .i64 k ∧ k ≤ p.N ∧ Aside0 (w'.heap[w.heap.size]? = some (.cells ((fillI l k p.N).map (Value.int .i64)).toArray 3 (0, 0))) ∧ Aside0 (Below w.heap.size w w')) (fun v _ => p.N - (intOf v).toNat)
 case atStart => exact ⟨0, rfl, Nat.zero_le _, HE, HB⟩
 case round =>
  clear HE HB
  obtain ⟨k, rfl, hk, hE, hB⟩ := hrel
  by_cases hlt : k < p.N
  ·have KC : Calls Tryz.prog 71 #[.int .i64 k, .pointer (some ⟨g0, 0, none⟩)] wr _ := HC.out k wr hlt hB.out
   have hlk := am hlt
   have h12 := hN.out
   obtain ⟨x, hx⟩ : ∃ x, x = rd l k := ⟨_, rfl⟩
   rw [← hx] at KC
   have HXX := am hx
   clear hx hk
   obtain ⟨u0, hu0⟩ : ∃ u0, ((fillI l k p.N).map (Value.int .i64)).toArray[k]? = some u0 := ⟨_, Array.getElem?_eq_getElem (show k < ((fillI l k p.N).map (Value.int .i64)).toArray.size from by rw [List.size_toArray, List.length_map, fillI_len HL.out (Nat.le_of_lt hlk.out)]; exact hlk.out)⟩
   have HU := am hu0
   clear hu0
   go_wp2_with (go_at_call 71; refine Calls.mono KC ?_; rintro e W ⟨rfl, hb⟩; have HB2 := am hb; clear hb; have HE2 := am (blk_below hE.out HB2.out); have yf := blk_frozen HE2.out k; have y0 := (blk_cell HE2.out k).trans HU.out)
   go_roundw
   case rel => exact ⟨k + 1, by simp, hlk.out, ⟨blk_put HE2.out k _ (by rw [HXX.out]; exact fillI_put HL.out hlk.out)⟩, ⟨(b_tr hB.out HB2.out).setCell (p := ⟨w.heap.size, k, none⟩) (Nat.le_refl _) _⟩⟩
   case measure => simp [intOf]; omega
  ·obtain rfl : k = p.N := by omega
   have hfin := hE.out
   have e9 : fillI l p.N p.N = l := by unfold fillI; rw [List.take_of_length_le (by have := HL.out; omega)]; simp
   rw [e9] at hfin
   have HF := am hfin
   clear hfin e9 hk hlt
   go_wp2
   go_ret
   exact ⟨_, rfl, by have := RdT.ints HF.out (by have := HL.out; have := hN.out; omega); rw [HL.out] at this; exact this, hB.out⟩
theorem each_devs (p : NtP) (ok0 : p.OK) (nb : Nat) (round : Int) (nz : List Nz) (sv cv : Value) (w : World) (h : NB p w nb round nz sv cv) (l : List Int) (hl : l.length = p.N) (g0 : Nat) (g1 : Nat)
  (hc : ∀ (i : Nat) W, i < p.N → Below w.heap.size w W → Calls Tryz.prog 73 (#[.int .i64 i] ++ #[.pointer (some ⟨g0, 0, none⟩), .pointer (some ⟨g1, 0, none⟩)]) W fun e w' => e = .returned (.int .i64 (rd l i)) ∧ Below W.heap.size W w') :
  Calls Tryz.prog 70 #[.pointer (some ⟨p.g, 0, none⟩), .func (.func 73) #[] #[.pointer (some ⟨g0, 0, none⟩), .pointer (some ⟨g1, 0, none⟩)]] w fun e w' => ∃ v, e = .returned v ∧ RdT (Kd.int .i64) 3 w' v l ∧ Below w.heap.size w w' := by
 have HH := am h
 have HC := am hc
 have HL := am hl
 have hN := am (show p.N ≤ 12 by have := ok0.hc.n12; have := ok0.hN; omega)
 have gg := h.gcells
 have hmk : ∀ W : World, (Instr.makeSlice 22 (.int .i64 (p.N : Int)) (.int .i64 (p.N : Int))).run Tryz.prog W = .ok (.slice (some ⟨W.heap.size, 0, none⟩) p.N p.N) (W.alloc (.cells ((fillI l 0 p.N).map (Value.int .i64)).toArray 3)) := fun W => by
  have h := make_run (P := Tryz.prog) 22 3 [.int .i64 0] (.int .i64 0) 8 Tryz.underlying22 info_int9 rfl (by simp) p.N p.N rfl (by have := hN.out; omega) (by omega) W
  rw [h, flat_one9]; unfold fillI; simp
 clear h hc hl ok0
 go_enter Tryz.func70, Tryz.ntmps70
 go_upto_region 2 with (fail)
 have HE := am (blk_new w (.cells ((fillI l 0 p.N).map (Value.int .i64)).toArray 3))
 have HB := am (b_al w (.cells ((fillI l 0 p.N).map (Value.int .i64)).toArray 3))
 clear gg hmk
 generalize w.alloc (.cells ((fillI l 0 p.N).map (Value.int .i64)).toArray 3) = W0 at *
 go_wp2
 go_loopw [15] (fun v w' => ∃ k : Nat, v = .int .i64 k ∧ k ≤ p.N ∧ Aside0 (w'.heap[w.heap.size]? = some (.cells ((fillI l k p.N).map (Value.int .i64)).toArray 3 (0, 0))) ∧ Aside0 (Below w.heap.size w w')) (fun v _ => p.N - (intOf v).toNat)
 case atStart => exact ⟨0, rfl, Nat.zero_le _, HE, HB⟩
 case round =>
  clear HE HB
  obtain ⟨k, rfl, hk, hE, hB⟩ := hrel
  by_cases hlt : k < p.N
  ·have KC : Calls Tryz.prog 73 #[.int .i64 k, .pointer (some ⟨g0, 0, none⟩), .pointer (some ⟨g1, 0, none⟩)] wr _ := HC.out k wr hlt hB.out
   have hlk := am hlt
   have h12 := hN.out
   obtain ⟨x, hx⟩ : ∃ x, x = rd l k := ⟨_, rfl⟩
   rw [← hx] at KC
   have HXX := am hx
   clear hx hk
   obtain ⟨u0, hu0⟩ : ∃ u0, ((fillI l k p.N).map (Value.int .i64)).toArray[k]? = some u0 := ⟨_, Array.getElem?_eq_getElem (show k < ((fillI l k p.N).map (Value.int .i64)).toArray.size from by rw [List.size_toArray, List.length_map, fillI_len HL.out (Nat.le_of_lt hlk.out)]; exact hlk.out)⟩
   have HU := am hu0
   clear hu0
   go_wp2_with (go_at_call 73; refine Calls.mono KC ?_; rintro e W ⟨rfl, hb⟩; have HB2 := am hb; clear hb; have HE2 := am (blk_below hE.out HB2.out); have yf := blk_frozen HE2.out k; have y0 := (blk_cell HE2.out k).trans HU.out)
   go_roundw
   case rel => exact ⟨k + 1, by simp, hlk.out, ⟨blk_put HE2.out k _ (by rw [HXX.out]; exact fillI_put HL.out hlk.out)⟩, ⟨(b_tr hB.out HB2.out).setCell (p := ⟨w.heap.size, k, none⟩) (Nat.le_refl _) _⟩⟩
   case measure => simp [intOf]; omega
  ·obtain rfl : k = p.N := by omega
   have hfin := hE.out
   have e9 : fillI l p.N p.N = l := by unfold fillI; rw [List.take_of_length_le (by have := HL.out; omega)]; simp
   rw [e9] at hfin
   have HF := am hfin
   clear hfin e9 hk hlt
   go_wp2
   go_ret
   exact ⟨_, rfl, by have := RdT.ints HF.out (by have := HL.out; have := hN.out; omega); rw [HL.out] at this; exact this, hB.out⟩
def bx (W : World) (b : Nat) (v : Value) : Prop := ∃ T, W.heap[b]? = some (.cells #[v] T (0, 0))
theorem bx.cell {W : World} {b : Nat} {v : Value} (h : bx W b v) : W.cell? ⟨b, 0, none⟩ = some v := by
 obtain ⟨T, h⟩ := h
 exact (blk_cell h 0).trans rfl
theorem bx.below {W W' : World} {b : Nat} {v : Value} (h : bx W b v) (hb : Below W.heap.size W W') : bx W' b v := h.imp fun _ h => blk_below h hb
theorem run_states (p : NtP) (ok0 : p.OK) (nb : Nat) (round : Int) (nz : List Nz) (sv cv : Value) (w : World) (h : NB p w nb round nz sv cv) (g0 : Nat) (h0 : bx w g0 (.pointer (some ⟨p.g, 0, none⟩))) (i : Nat) (hi : i < p.N) :
  Calls Tryz.prog 71 #[.int .i64 i, .pointer (some ⟨g0, 0, none⟩)] w fun e w' => e = .returned (.int .i64 (gz nz i).1.st) ∧ Below w.heap.size w w' := by
 have hl := h.hl
 have q0 : ((i : Int) < (p.N : Int)) = True := eq_true (by omega)
 have gg := h.gcells
 have nn := h.ncells i (by omega)
 have y0 := h0.cell
 have hN : p.N ≤ 12 := by have := ok0.hc.n12; have := ok0.hN; omega
 obtain ⟨x, y, hz⟩ : ∃ x y, gz nz i = (x, y) := ⟨_, _, rfl⟩
 rw [hz] at nn ⊢
 simp only at nn ⊢
 clear h h0 hi hz ok0 hl
 go_enter Tryz.func71, Tryz.ntmps71
 go_wp2
 go_ret
 exact ⟨rfl, Below.refl _ _⟩
theorem run_dev (p : NtP) (ok0 : p.OK) (nb : Nat) (round : Int) (hr0 : 0 ≤ round) (hr1 : round ≤ 1000) (nz : List Nz) (sv cv : Value) (w : World) (h : NB p w nb round nz sv cv) (g0 g1 : Nat) (o : Nat) (ho : o < p.N) (h0 : bx w g0 (.pointer (some ⟨p.g, 0, none⟩))) (h1 : bx w g1 (.int .i64 o)) (i : Nat) (hi : i < p.N) :
  Calls Tryz.prog 73 #[.int .i64 i, .pointer (some ⟨g0, 0, none⟩), .pointer (some ⟨g1, 0, none⟩)] w fun e w' => e = .returned (.int .i64 (devZ p round nz o i)) ∧ Below w.heap.size w w' := by
 have hl := h.hl
 have KD := am (net_dev p ok0 nb round hr0 hr1 nz sv cv o i (by omega) (by omega) w h)
 have y0 := h0.cell
 have y1 := h1.cell
 generalize devZ p round nz o i = d at *
 clear h h0 h1 hi ok0 hl hr0 hr1 ho
 go_enter Tryz.func73, Tryz.ntmps73
 go_wp2_with (go_at_call 74; refine KD.out.mono ?_; rintro e W ⟨rfl, hb⟩; have HB := am hb; clear hb)
 go_ret
 exact ⟨rfl, HB.out⟩
def statesZ (nz : List Nz) : List Int := nz.map fun z => z.1.st
def devsZ (p : NtP) (round : Int) (nz : List Nz) (o : Nat) : List Int := (List.range p.N).map fun i => devZ p round nz o i
theorem rd_states {nz : List Nz} {i : Nat} (h : i < nz.length) : rd (statesZ nz) i = (gz nz i).1.st := by
 unfold rd statesZ
 rw [gz_at h]
 simp [List.getD_eq_getElem?_getD, List.getElem?_eq_getElem h]
theorem rd_devs {p : NtP} {round : Int} {nz : List Nz} {o i : Nat} (h : i < p.N) : rd (devsZ p round nz o) i = devZ p round nz o i := by
 unfold rd devsZ
 simp [List.getD_eq_getElem?_getD, List.getElem?_range, h]
def sidesZ (p : NtP) (round : Int) (s dir : Int) (sends : List (List UInt8)) (states devs : List Int) : List Sd :=
 (⟨p.c, none, 0, p.s.f, none, 0, none, 0, round, s, dir, states, none, 0, devs, none, 0, p.N, 0, 0, 0⟩ : WvP).runL sends
theorem sidesZ_eq (p : NtP) (round : Int) (s dir : Int) (sends : List (List UInt8)) (states devs : List Int) (A : Option Addr) (m : Nat) (AA : Option Addr) (ma : Nat) (AD : Option Addr) (md : Nat) (As : Option Addr) (ms : Nat) (Av : Option Addr) (mv g sb db : Nat) : (⟨p.c, A, m, p.s.f, AA, ma, AD, md, round, s, dir, states, As, ms, devs, Av, mv, p.N, g, sb, db⟩ : WvP).runL sends = sidesZ p round s dir sends states devs := by
 unfold sidesZ WvP.runL
 refine go_congr ?_ _ _ _ _
 intro _ _ _ _
 rfl
theorem run_side (p : NtP) (ok0 : p.OK) (nb : Nat) (round : Int) (hr0 : 0 ≤ round) (hr1 : round ≤ 1000) (nz : List Nz) (sv cv : Value) (w : World) (h : NB p w nb round nz sv cv) (g0 g1 g2 g3 : Nat) (o : Nat) (ho : o < p.N) (s dir : Int) (hs0 : 0 ≤ s) (hs1 : s < p.Q) (hd : dir = 1 ∨ dir = -1) (sends : List (List UInt8)) (Ax : Option Addr) (mx : Nat) (states : List Int) (hsl : states.length = p.N) (As : Option Addr) (ms : Nat)
  (hse : sends.length = (p.c.owners s).length) (hne : (p.c.owners s).length ≠ 0) (h9 : ∀ t ∈ sends, t.length ≤ 900)
  (h0 : bx w g0 (.pointer (some ⟨p.g, 0, none⟩))) (h1 : bx w g1 (.int .i64 s)) (h2 : bx w g2 (.slice Ax sends.length mx)) (h3 : bx w g3 (.slice As states.length ms)) (hsn : RdT Kd.string 9 w (.slice Ax sends.length mx) (sends.map S)) (hst : RdT (Kd.int .i64) 3 w (.slice As states.length ms) states) :
  Calls Tryz.prog 72 #[.int .i64 dir, .int .i64 o, .pointer (some ⟨g0, 0, none⟩), .pointer (some ⟨g1, 0, none⟩), .pointer (some ⟨g2, 0, none⟩), .pointer (some ⟨g3, 0, none⟩)] w fun e w' => ∃ v, e = .returned v ∧ RdT k127 127 w' v ((sidesZ p round s dir sends states (devsZ p round nz o)).map sdS) ∧ Below w.heap.size w w' := by
 obtain ⟨dv, hdv⟩ : ∃ dv, dv = devsZ p round nz o := ⟨_, rfl⟩
 have hdl : dv.length = p.N := by rw [hdv]; unfold devsZ; simp
 have KR := am (fun (Av : Option Addr) (mv : Nat) W (hW : p.Im W) (hst : RdT (Kd.int .i64) 3 W (.slice As states.length ms) states) (hsn : RdT Kd.string 9 W (.slice Ax sends.length mx) (sends.map S)) (hdr : RdT (Kd.int .i64) 3 W (.slice Av dv.length mv) dv) => by
  have h5 := spread_Run ⟨p.c, p.A, p.m, p.s.f, p.a.AA, p.a.ma, p.a.AD, p.a.mD, round, s, dir, states, As, ms, dv, Av, mv, p.N, 0, 0, 0⟩ ⟨ok0.hc, ok0.hN, hsl, hdl, by have := ok0.hs.f.la; show p.s.f.acts.length ≤ 1000; omega, hr0, by show round ≤ 1000000; omega, hs0, by have := slots_range ok0.hc; have := ok0.hQ; show s ≤ 1000; omega, hd⟩
   (fun x hx base hb => ⟨doneL_len ok0.hc x (ok0.hs.f.tx x hx) round s base hb, fun W hW => done_calls p.c ok0.hc x (ok0.hs.f.tx x hx) round s hr0 (by show round ≤ 1000000; omega) base hb p.A p.m W hW⟩)
   sends Ax mx hse hne h9 W hW.C hW.F hst.C hdr.C (by
    have h6 := hsn
    rw [show sends.length = (sends.map S).length by simp] at h6
    have h7 := h6.C
    simpa using h7)
  rw [sidesZ_eq p round s dir sends states dv] at h5
  exact h5)
 have HE : Aside0 (∀ W gb, NB p W nb round nz sv cv → bx W g0 (.pointer (some ⟨p.g, 0, none⟩)) → bx W gb (.int .i64 o) → Calls Tryz.prog 70 #[.pointer (some ⟨p.g, 0, none⟩), .func (.func 73) #[] #[.pointer (some ⟨g0, 0, none⟩), .pointer (some ⟨gb, 0, none⟩)]] W fun e w' => ∃ v, e = .returned v ∧ RdT (Kd.int .i64) 3 w' v dv ∧ Below W.heap.size W w') := ⟨fun W gb hN hb0 hb1 =>
  each_devs p ok0 nb round nz sv cv W hN dv hdl g0 gb (fun i W' hi hB => by
   rw [hdv, rd_devs hi]
   exact run_dev p ok0 nb round hr0 hr1 nz sv cv W' (hN.below hB) g0 gb o ho (hb0.below hB) (hb1.below hB) i hi)⟩
 rw [← hdv]
 have BB := b_al w (.cells #[.int .i64 o] 3)
 have HX := am (h.below BB)
 have HB := am BB
 have H0 := am (h0.below BB)
 have H1 := am (h1.below BB)
 have H2 := am (h2.below BB)
 have H3 := am (h3.below BB)
 have HGB := am (show bx (w.alloc (.cells #[.int .i64 o] 3)) w.heap.size (.int .i64 o) from ⟨_, blk_new w _⟩)
 have HST := am (hst.below BB)
 have HSN := am (hsn.below BB)
 generalize sidesZ p round s dir sends states dv = res at *
 clear h h0 h1 h2 h3 hsn hst BB hdv hdl hse hne h9 hsl hd hs0 hs1 hr0 hr1 ho ok0
 go_enter Tryz.func72, Tryz.ntmps72
 go_upto_region 1 with (fail)
 generalize w.alloc (.cells #[.int .i64 o] 3) = W1 at *
 have y0 := H0.out.cell
 go_upto_region 2 with (go_at_call 70; refine (HE.out W1 w.heap.size HX.out H0.out HGB.out).mono ?_; rintro e W2 ⟨v, rfl, hR, hb⟩; obtain ⟨Av, mv, hv, -⟩ := id hR; subst hv; have HDV := am hR; have HN := am hb; clear hR hb y0)
 have n1 := am (HX.out.below HN.out)
 have n2 := am (b_tr HB.out HN.out)
 have y0 := (H0.out.below HN.out).cell
 have y1 := (H1.out.below HN.out).cell
 have y2 := (H2.out.below HN.out).cell
 have y3 := (H3.out.below HN.out).cell
 have n3 := am (HST.out.below HN.out)
 have n4 := am (HSN.out.below HN.out)
 clear HX HB HST HSN H0 H1 H2 H3 HGB HN HE
 have HX := n1
 have HB := n2
 have HST := n3
 have HSN := n4
 clear n1 n2 n3 n4
 have gg := HX.out.gcells
 have HN := am (below_drew (Below.refl W2.heap.size W2))
 refine startB (n := 20) (F := fun _ => False) (ds := []) (by kernel_rfl) rfl (fun hHeld => ?_)
 refine plan_ [.t 0 13, .p 1 14, .p 2 15, .t 3 16, .t 4 17, .p 5 18, .p 6 19, .p 7 20, .t 8 21, .t 9 22, .p 10 23, .p 11 24, .t 12 25, .t 13 26, .p 14 27, .t 15 28, .t 16 29, .p 17 30] ?_
 repeat (first | refine jP ?_ | refine jW hHeld ?_ | refine jG ?_)
 refine planE ?_
 refine jO 18 (some 31) (fun K hK => ?_)
 refine kC Tryz.func75 #[p.c.v p.A p.m, p.s.f.v p.a.AA p.a.ma p.a.AD p.a.mD, .int .i64 round, .int .i64 s, .int .i64 dir, .slice Ax sends.length mx, .slice As states.length ms, .slice Av dv.length mv] ?_
 refine (KR.out Av mv _ (HX.out.im.below HN.out) (HST.out.below HN.out) (HSN.out.below HN.out) (HDV.out.below HN.out)).mono ?_
 rintro e W6 ⟨v6, rfl, hR, hb⟩
 have HR := am (RdT.of_R hR)
 clear hR
 replace HN := am (b_tr HN.out hb)
 clear hb
 refine ⟨_, rfl, ?_⟩
 refine hK.out _ _ (Kp.of HN.out) (fun hHeld => ?_)
 clear hK K
 refine jM 31 ?_
 refine plan_ [.p 19 8] ?_
 repeat (first | refine jP ?_ | refine jW hHeld ?_ | refine jG ?_)
 refine planE ?_
 refine done_ (by kernel_rfl) ?_
 clear gg y0 y1 y2 y3
 go_wp2
 go_ret
 exact ⟨_, rfl, HR.out, b_tr HB.out HN.out⟩
end Go.Proofs.YtgcgglmmfgmaoaaGreat.PK
end
section
namespace Go.Proofs.YtgcgglmmfgmaoaaGreat.PK
open Go Go.RowKit Go.Proofs.YtgcgglmmfgmaoaaGreatW.PrintWords Go.Proofs.YtgcgglmmfgmaoaaGreatW.PrintLast Go.Proofs.YtgcgglmmfgmaoaaGreatW.PrintMore
attribute [local go_sem] max2_int min2_int max_two min_two
theorem size_al2 (w : World) (o : Obj) : (w.alloc o).heap.size = w.heap.size + 1 := by simp only [World.alloc, Array.size_push]
theorem toL_inj {a b : ByteArray} (h : a.toList = b.toList) : a = b := by
 have ha := ByteArray.toList_mk a.data.toList
 have hb := ByteArray.toList_mk b.data.toList
 rw [show (⟨a.data.toList.toArray⟩ : ByteArray) = a from Joins.bytes_eta a |>.symm ▸ rfl] at ha
 rw [show (⟨b.data.toList.toArray⟩ : ByteArray) = b from Joins.bytes_eta b |>.symm ▸ rfl] at hb
 rw [ha, hb] at h
 rw [← Joins.bytes_eta a, ← Joins.bytes_eta b, h]
theorem info_side2 : (Tryz.prog.info? 127).map (·.size) = some 4 := by kernel_rfl
theorem World.rangeAt.below_ {w W : World} {b o : Nat} {cs : List Value} (h : w.rangeAt b o cs) (hb : Below w.heap.size w W) : W.rangeAt b o cs := fun j v hv => (hb.cell (World.block_lt_of_cell? _ _ (h j v hv))).trans (h j v hv)
def compU (far : Int) (pair : Bool) : Bool := decide (2 ≤ far) || (far == 1 && pair)
def direU (far : Int) (pair : Bool) : Bool := far == 1 && !pair
theorem comp_any (s0 s1 s2 : ByteArray) (far : Int) (pair : Bool) (w : World) :
  Calls Tryz.prog 215 #[.agg #[.string s0, .string s1, .string s2, .int .i64 far, .bool pair]] w fun e w' => e = .returned (.tuple #[.string s2, .bool (compU far pair)]) ∧ Below w.heap.size w w' := by
 unfold compU
 by_cases h2 : 2 ≤ far
 ·rw [decide_eq_true h2]; exact comp_far s0 s1 s2 far pair h2 w
 ·rw [decide_eq_false h2]
  by_cases h1 : far = 1
  ·subst h1; simpa using comp_one s0 s1 s2 pair w
  ·have : (far == 1) = false := beq_eq_false_iff_ne.2 h1
   rw [this]; exact comp_near s0 s1 s2 far pair (by omega) w
theorem dire_any (s0 s1 s2 : ByteArray) (far : Int) (pair : Bool) (w : World) :
  Calls Tryz.prog 216 #[.agg #[.string s0, .string s1, .string s2, .int .i64 far, .bool pair]] w fun e w' => e = .returned (.tuple #[.string s0, .bool (direU far pair)]) ∧ Below w.heap.size w w' := by
 unfold direU
 by_cases h1 : far = 1
 ·subst h1; simpa using dire_one s0 s1 s2 pair w
 ·have : (far == 1) = false := beq_eq_false_iff_ne.2 h1
  rw [this]; exact dire_no s0 s1 s2 far pair h1 w
def compT (c : Cf) (round slot : Int) (oa ob : List UInt8) (af bf : Int) : List S167 := twoOf c round slot oa ob (compU af (decide (c.n ≤ slot))) (compU bf (decide (c.n ≤ slot))) 2
def direT (c : Cf) (round slot : Int) (da db : List UInt8) (af bf : Int) : List S167 := twoOf c round slot da db (direU af (decide (c.n ≤ slot))) (direU bf (decide (c.n ≤ slot))) 2
def PkYes (f : S117) (w : World) (e : Ending) (w' : World) : Prop := (∃ v : Value, e = .returned (.tuple #[.agg (frV f v), .bool true]) ∧ RdT k55 55 w' v f.f4) ∧ Below w.heap.size w w'
theorem pick_differ (c : Cf) (hc : c.OK) (round slot : Int) (hr0 : 0 ≤ round) (hr1 : round ≤ 1000000) (da sa oa db sb ob : List UInt8) (af bf : Int) (h1 : da.length ≤ 900) (h2 : oa.length ≤ 900) (h3 : db.length ≤ 900) (h4 : ob.length ≤ 900) (x y : S167) (hcase : compT c round slot oa ob af bf = [x, y]) (hne : x.f0 ≠ y.f0) (A : Option Addr) (m : Nat) (w : World) (hr : c.C w A m) :
  Calls Tryz.prog 77 #[c.v A m, .int .i64 round, .int .i64 slot, .agg #[.string (S da), .string (S sa), .string (S oa), .int .i64 af], .agg #[.string (S db), .string (S sb), .string (S ob), .int .i64 bf]] w (RtNo w) := by
 have hu := Tryz.underlying117
 have k1 := fun W => comp_any (S da) (S sa) (S oa) af (decide (c.n ≤ slot)) W
 have k2 := fun W => comp_any (S db) (S sb) (S ob) bf (decide (c.n ≤ slot)) W
 have k3 := fun W => dire_any (S da) (S sa) (S oa) af (decide (c.n ≤ slot)) W
 have k4 := fun W => dire_any (S db) (S sb) (S ob) bf (decide (c.n ≤ slot)) W
 have KC := fun lb W hw hlb => rights_comp c hc round slot hr0 hr1 (S da) (S sa) (S oa) (S db) (S sb) (S ob) af bf (decide (c.n ≤ slot)) oa ob h2 h4 _ _ k1 k2 lb 2 A m W hw hlb
 have KD := fun lb W hw hlb => rights_dire c hc round slot hr0 hr1 (S da) (S sa) (S oa) (S db) (S sb) (S ob) af bf (decide (c.n ≤ slot)) da db h1 h3 _ _ k3 k4 lb 2 A m W hw hlb
 clear k1 k2 k3 k4
 have e1 := size_al2 w (.cells #[.int .i64 c.n, .int .i64 c.pi, .int .i64 c.e, .int .i64 c.g, .int .i64 c.first, .slice A c.pairs.length m] 24)
 have e2 := size_al2 (w.alloc (.cells #[.int .i64 c.n, .int .i64 c.pi, .int .i64 c.e, .int .i64 c.g, .int .i64 c.first, .slice A c.pairs.length m] 24)) (.cells #[.string (S da), .string (S sa), .string (S oa), .int .i64 af] 127)
 have e3 := size_al2 ((w.alloc (.cells #[.int .i64 c.n, .int .i64 c.pi, .int .i64 c.e, .int .i64 c.g, .int .i64 c.first, .slice A c.pairs.length m] 24)).alloc (.cells #[.string (S da), .string (S sa), .string (S oa), .int .i64 af] 127)) (.cells #[.string (S db), .string (S sb), .string (S ob), .int .i64 bf] 127)
 have e4 := size_al2 (((w.alloc (.cells #[.int .i64 c.n, .int .i64 c.pi, .int .i64 c.e, .int .i64 c.g, .int .i64 c.first, .slice A c.pairs.length m] 24)).alloc (.cells #[.string (S da), .string (S sa), .string (S oa), .int .i64 af] 127)).alloc (.cells #[.string (S db), .string (S sb), .string (S ob), .int .i64 bf] 127)) (.cells #[.int .i64 0, .int .i64 0, .int .i64 0, .int .i64 0, .int .i64 0, .slice none 0 0] 117)
 have b0 := ((b_al w (.cells #[.int .i64 c.n, .int .i64 c.pi, .int .i64 c.e, .int .i64 c.g, .int .i64 c.first, .slice A c.pairs.length m] 24)).alloc (by omega) (.cells #[.string (S da), .string (S sa), .string (S oa), .int .i64 af] 127)).alloc (by omega) (.cells #[.string (S db), .string (S sb), .string (S ob), .int .i64 bf] 127) |>.alloc (by omega) (.cells #[.int .i64 0, .int .i64 0, .int .i64 0, .int .i64 0, .int .i64 0, .slice none 0 0] 117)
 have l1 := blk_alloc (blk_alloc (blk_alloc (blk_new w (.cells #[.int .i64 c.n, .int .i64 c.pi, .int .i64 c.e, .int .i64 c.g, .int .i64 c.first, .slice A c.pairs.length m] 24)) (.cells #[.string (S da), .string (S sa), .string (S oa), .int .i64 af] 127)) (.cells #[.string (S db), .string (S sb), .string (S ob), .int .i64 bf] 127)) (.cells #[.int .i64 0, .int .i64 0, .int .i64 0, .int .i64 0, .int .i64 0, .slice none 0 0] 117)
 have l2 := blk_alloc (blk_alloc (blk_new (w.alloc (.cells #[.int .i64 c.n, .int .i64 c.pi, .int .i64 c.e, .int .i64 c.g, .int .i64 c.first, .slice A c.pairs.length m] 24)) (.cells #[.string (S da), .string (S sa), .string (S oa), .int .i64 af] 127)) (.cells #[.string (S db), .string (S sb), .string (S ob), .int .i64 bf] 127)) (.cells #[.int .i64 0, .int .i64 0, .int .i64 0, .int .i64 0, .int .i64 0, .slice none 0 0] 117)
 have l3 := blk_alloc (blk_new ((w.alloc (.cells #[.int .i64 c.n, .int .i64 c.pi, .int .i64 c.e, .int .i64 c.g, .int .i64 c.first, .slice A c.pairs.length m] 24)).alloc (.cells #[.string (S da), .string (S sa), .string (S oa), .int .i64 af] 127)) (.cells #[.string (S db), .string (S sb), .string (S ob), .int .i64 bf] 127)) (.cells #[.int .i64 0, .int .i64 0, .int .i64 0, .int .i64 0, .int .i64 0, .slice none 0 0] 117)
 have l4 := blk_new (((w.alloc (.cells #[.int .i64 c.n, .int .i64 c.pi, .int .i64 c.e, .int .i64 c.g, .int .i64 c.first, .slice A c.pairs.length m] 24)).alloc (.cells #[.string (S da), .string (S sa), .string (S oa), .int .i64 af] 127)).alloc (.cells #[.string (S db), .string (S sb), .string (S ob), .int .i64 bf] 127)) (.cells #[.int .i64 0, .int .i64 0, .int .i64 0, .int .i64 0, .int .i64 0, .slice none 0 0] 117)
 have c1 := hr.below b0
 rw [e1] at e2 l2
 rw [e2] at e3 l3
 rw [e3] at e4 l4
 have L1 := am l1
 have L2 := am l2
 have L3 := am l3
 have L4 := am l4
 have HB := am b0
 have C1 := am c1
 have E4 := am e4
 clear l1 l2 l3 l4 b0 c1 e1 e2 e3 e4 hr
 have HH1 := am h1; have HH2 := am h2; have HH3 := am h3; have HH4 := am h4; clear h1 h2 h3 h4
 go_enter Tryz.func77, Tryz.ntmps77
 unfold compT at hcase
 rw [hcase] at KC
 go_wp2_with (first
  | (go_at_call 104; ((with_reducible refine (KC _ _ (C1.out.below (b_al _ _)) (by first | exact blk_new _ _ | (rw [← E4.out]; exact blk_new _ _))).mono ?_); rintro e W1 ⟨v_, rfl, hR, hb⟩; obtain ⟨lb, co, Ae, ce, rfl, _, _, hRS⟩ := taken_open hR; obtain ⟨y0, y1⟩ := hRS y [] rfl; have Y0 := am y0; have Y1 := am y1; clear hR hRS y0 y1; have B_ := am ((below_alloc HB.out _).trans (hb.mono (below_alloc HB.out _).size)); have n1 := am (blk_below (blk_alloc L1.out _) hb); have n2 := am (blk_below (blk_alloc L2.out _) hb); have n3 := am (blk_below (blk_alloc L3.out _) hb); have n4 := am (blk_below (blk_alloc L4.out _) hb); have n5 := am ((C1.out.below (b_al _ _)).below (show Below _ _ W1 from hb)); clear HB L1 L2 L3 L4 C1 hb; have HB := B_; have L1 := n1; have L2 := n2; have L3 := n3; have L4 := n4; have C1 := n5; clear B_ n1 n2 n3 n4 n5)))
 have hS0 : W1.drew.cell? ⟨lb, 0, none⟩ = some (.string x.f0) ∧ W1.drew.cell? ⟨lb, 7, none⟩ = some (.string y.f0) := ⟨(below_drew (Below.refl _ _)).cell (World.block_lt_of_cell? _ _ Y0.out) |>.trans Y0.out, (below_drew (Below.refl _ _)).cell (World.block_lt_of_cell? _ _ Y1.out) |>.trans Y1.out⟩
 have hnb : (x.f0.toList == y.f0.toList) = false := beq_eq_false_iff_ne.2 fun h => hne (toL_inj h)
 refine start_ (n := 15) (S := fun w' => w'.cell? ⟨lb, 0, none⟩ = some (.string x.f0) ∧ w'.cell? ⟨lb, 7, none⟩ = some (.string y.f0)) (ds := []) #[false, false, false, false, false, false, false, false, false, false, false, false, false, false, false] (by kernel_rfl) rfl rfl ?st0 (fun hHeld => ?_)
 case st0 => exact hS0
 refine plan_ [.p 0 32, .p 1 33, .p 2 34, .p 3 35, .p 4 36, .p 5 37, .p 6 38, .t 7 39, .p 8 40, .p 9 41, .p 10 42, .t 11 43, .p 12 44, .p 13 45, .p 14 31] ?_
 repeat (first | refine kP ?_ | refine kT hHeld ?_ | refine kG ?_)
 refine planE ?_
 refine done_ (by kernel_rfl) ?_
 have L42 := am (blk_drew L4.out)
 have HB2 := am (below_drew HB.out)
 clear L4 HB
 have L4 := L42
 have HB := HB2
 clear L42 HB2
 go_wp2_with ((with_reducible refine gate_ (.store 117 (.tmp 10) (.tmp 46)) rfl ?_); refine store_part rfl 117 (.tmp 10) (.tmp 46) rfl (w.heap.size + 1 + 1 + 1) 0 117 #[.int .i64 0, .int .i64 0, .int .i64 0, .int .i64 0, .int .i64 0, .slice none 0 0] [.int .i64 0, .int .i64 0, .int .i64 0, .int .i64 0, .int .i64 0, .slice none 0 0] rfl rfl (by first | exact L4.out | exact blk_drew L4.out) (by simp) info_frame (by simp [Value.oneCell']) ?_; intro V3 hG3 hK3; have G3 := am hG3; have K3 := am hK3; clear hG3 hK3)
 have q2 := below_kp HB.out K3.out (show w.heap.size ≤ w.heap.size + 1 + 1 + 1 by omega) HB.out.size
 exact bodyPost_ret (v := .tuple #[.agg zFr, .bool false]) (results_ct Tryz.results77 _ V3 _ _ _ _ _ rfl G3.out hu rfl info_frame) rfl ⟨rfl, q2⟩
theorem pick_two (c : Cf) (hc : c.OK) (round slot : Int) (hr0 : 0 ≤ round) (hr1 : round ≤ 1000000) (da sa oa db sb ob : List UInt8) (af bf : Int) (h1 : da.length ≤ 900) (h2 : oa.length ≤ 900) (h3 : db.length ≤ 900) (h4 : ob.length ≤ 900) (x y : S167) (hcase : compT c round slot oa ob af bf = [x, y]) (hne : x.f0 = y.f0) (A : Option Addr) (m : Nat) (w : World) (hr : c.C w A m) :
  Calls Tryz.prog 77 #[c.v A m, .int .i64 round, .int .i64 slot, .agg #[.string (S da), .string (S sa), .string (S oa), .int .i64 af], .agg #[.string (S db), .string (S sb), .string (S ob), .int .i64 bf]] w (PkYes x.f1 w) := by
 have hu := Tryz.underlying117
 have k1 := fun W => comp_any (S da) (S sa) (S oa) af (decide (c.n ≤ slot)) W
 have k2 := fun W => comp_any (S db) (S sb) (S ob) bf (decide (c.n ≤ slot)) W
 have k3 := fun W => dire_any (S da) (S sa) (S oa) af (decide (c.n ≤ slot)) W
 have k4 := fun W => dire_any (S db) (S sb) (S ob) bf (decide (c.n ≤ slot)) W
 have KC := fun lb W hw hlb => rights_comp c hc round slot hr0 hr1 (S da) (S sa) (S oa) (S db) (S sb) (S ob) af bf (decide (c.n ≤ slot)) oa ob h2 h4 _ _ k1 k2 lb 2 A m W hw hlb
 have KD := fun lb W hw hlb => rights_dire c hc round slot hr0 hr1 (S da) (S sa) (S oa) (S db) (S sb) (S ob) af bf (decide (c.n ≤ slot)) da db h1 h3 _ _ k3 k4 lb 2 A m W hw hlb
 clear k1 k2 k3 k4
 have e1 := size_al2 w (.cells #[.int .i64 c.n, .int .i64 c.pi, .int .i64 c.e, .int .i64 c.g, .int .i64 c.first, .slice A c.pairs.length m] 24)
 have e2 := size_al2 (w.alloc (.cells #[.int .i64 c.n, .int .i64 c.pi, .int .i64 c.e, .int .i64 c.g, .int .i64 c.first, .slice A c.pairs.length m] 24)) (.cells #[.string (S da), .string (S sa), .string (S oa), .int .i64 af] 127)
 have e3 := size_al2 ((w.alloc (.cells #[.int .i64 c.n, .int .i64 c.pi, .int .i64 c.e, .int .i64 c.g, .int .i64 c.first, .slice A c.pairs.length m] 24)).alloc (.cells #[.string (S da), .string (S sa), .string (S oa), .int .i64 af] 127)) (.cells #[.string (S db), .string (S sb), .string (S ob), .int .i64 bf] 127)
 have e4 := size_al2 (((w.alloc (.cells #[.int .i64 c.n, .int .i64 c.pi, .int .i64 c.e, .int .i64 c.g, .int .i64 c.first, .slice A c.pairs.length m] 24)).alloc (.cells #[.string (S da), .string (S sa), .string (S oa), .int .i64 af] 127)).alloc (.cells #[.string (S db), .string (S sb), .string (S ob), .int .i64 bf] 127)) (.cells #[.int .i64 0, .int .i64 0, .int .i64 0, .int .i64 0, .int .i64 0, .slice none 0 0] 117)
 have b0 := ((b_al w (.cells #[.int .i64 c.n, .int .i64 c.pi, .int .i64 c.e, .int .i64 c.g, .int .i64 c.first, .slice A c.pairs.length m] 24)).alloc (by omega) (.cells #[.string (S da), .string (S sa), .string (S oa), .int .i64 af] 127)).alloc (by omega) (.cells #[.string (S db), .string (S sb), .string (S ob), .int .i64 bf] 127) |>.alloc (by omega) (.cells #[.int .i64 0, .int .i64 0, .int .i64 0, .int .i64 0, .int .i64 0, .slice none 0 0] 117)
 have l1 := blk_alloc (blk_alloc (blk_alloc (blk_new w (.cells #[.int .i64 c.n, .int .i64 c.pi, .int .i64 c.e, .int .i64 c.g, .int .i64 c.first, .slice A c.pairs.length m] 24)) (.cells #[.string (S da), .string (S sa), .string (S oa), .int .i64 af] 127)) (.cells #[.string (S db), .string (S sb), .string (S ob), .int .i64 bf] 127)) (.cells #[.int .i64 0, .int .i64 0, .int .i64 0, .int .i64 0, .int .i64 0, .slice none 0 0] 117)
 have l2 := blk_alloc (blk_alloc (blk_new (w.alloc (.cells #[.int .i64 c.n, .int .i64 c.pi, .int .i64 c.e, .int .i64 c.g, .int .i64 c.first, .slice A c.pairs.length m] 24)) (.cells #[.string (S da), .string (S sa), .string (S oa), .int .i64 af] 127)) (.cells #[.string (S db), .string (S sb), .string (S ob), .int .i64 bf] 127)) (.cells #[.int .i64 0, .int .i64 0, .int .i64 0, .int .i64 0, .int .i64 0, .slice none 0 0] 117)
 have l3 := blk_alloc (blk_new ((w.alloc (.cells #[.int .i64 c.n, .int .i64 c.pi, .int .i64 c.e, .int .i64 c.g, .int .i64 c.first, .slice A c.pairs.length m] 24)).alloc (.cells #[.string (S da), .string (S sa), .string (S oa), .int .i64 af] 127)) (.cells #[.string (S db), .string (S sb), .string (S ob), .int .i64 bf] 127)) (.cells #[.int .i64 0, .int .i64 0, .int .i64 0, .int .i64 0, .int .i64 0, .slice none 0 0] 117)
 have l4 := blk_new (((w.alloc (.cells #[.int .i64 c.n, .int .i64 c.pi, .int .i64 c.e, .int .i64 c.g, .int .i64 c.first, .slice A c.pairs.length m] 24)).alloc (.cells #[.string (S da), .string (S sa), .string (S oa), .int .i64 af] 127)).alloc (.cells #[.string (S db), .string (S sb), .string (S ob), .int .i64 bf] 127)) (.cells #[.int .i64 0, .int .i64 0, .int .i64 0, .int .i64 0, .int .i64 0, .slice none 0 0] 117)
 have c1 := hr.below b0
 rw [e1] at e2 l2
 rw [e2] at e3 l3
 rw [e3] at e4 l4
 have L1 := am l1
 have L2 := am l2
 have L3 := am l3
 have L4 := am l4
 have HB := am b0
 have C1 := am c1
 have E4 := am e4
 clear l1 l2 l3 l4 b0 c1 e1 e2 e3 e4 hr
 have HH1 := am h1; have HH2 := am h2; have HH3 := am h3; have HH4 := am h4; clear h1 h2 h3 h4
 go_enter Tryz.func77, Tryz.ntmps77
 unfold compT at hcase
 rw [hcase] at KC
 go_wp2_with (first
  | (go_at_call 104; ((with_reducible refine (KC _ _ (C1.out.below (b_al _ _)) (by first | exact blk_new _ _ | (rw [← E4.out]; exact blk_new _ _))).mono ?_); rintro e W1 ⟨v_, rfl, hR, hb⟩; obtain ⟨lb, co, Ae, ce, rfl, hRG, hRT, hRS⟩ := taken_open hR; have RG := am (World.rangeAt.below_ hRG (Below.refl _ _)); have RT := am hRT; obtain ⟨y0, y1⟩ := hRS y [] rfl; have Y0 := am y0; have Y1 := am y1; clear y0 y1; clear hR hRS hRG hRT; have B_ := am ((below_alloc HB.out _).trans (hb.mono (below_alloc HB.out _).size)); have n1 := am (blk_below (blk_alloc L1.out _) hb); have n2 := am (blk_below (blk_alloc L2.out _) hb); have n3 := am (blk_below (blk_alloc L3.out _) hb); have n4 := am (blk_below (blk_alloc L4.out _) hb); have n5 := am ((C1.out.below (b_al _ _)).below (show Below _ _ W1 from hb)); clear HB L1 L2 L3 L4 C1 hb; have HB := B_; have L1 := n1; have L2 := n2; have L3 := n3; have L4 := n4; have C1 := n5; clear B_ n1 n2 n3 n4 n5)))
 have hS0 : W1.drew.cell? ⟨lb, 0, none⟩ = some (.string x.f0) ∧ W1.drew.cell? ⟨lb, 7, none⟩ = some (.string y.f0) := ⟨(below_drew (Below.refl _ _)).cell (World.block_lt_of_cell? _ _ Y0.out) |>.trans Y0.out, (below_drew (Below.refl _ _)).cell (World.block_lt_of_cell? _ _ Y1.out) |>.trans Y1.out⟩
 have hnb : (x.f0.toList == y.f0.toList) = true := beq_iff_eq.2 (by rw [hne])
 refine start_ (n := 15) (S := fun w' => w'.cell? ⟨lb, 0, none⟩ = some (.string x.f0) ∧ w'.cell? ⟨lb, 7, none⟩ = some (.string y.f0)) (ds := []) #[false, false, false, false, false, false, false, false, false, false, false, false, false, false, false] (by kernel_rfl) rfl rfl ?st0 (fun hHeld => ?_)
 case st0 => exact hS0
 refine plan_ [.p 0 32, .p 1 33, .p 2 34, .p 3 35, .p 4 36, .p 5 37, .p 6 38, .t 7 39, .p 8 40, .p 9 41, .p 10 42, .t 11 43, .p 12 44, .p 13 45, .p 14 31] ?_
 repeat (first | refine kP ?_ | refine kT hHeld ?_ | refine kG ?_)
 refine planE ?_
 refine done_ (by kernel_rfl) ?_
 have RG2 := am (World.rangeAt.below_ RG.out (below_drew (Below.refl W1.heap.size W1)))
 have RT2 := am (RT.out.below (below_drew (Below.refl W1.heap.size W1)))
 clear RG RT
 have RG := RG2
 have RT := RT2
 have L42 := am (blk_drew L4.out)
 have HB2 := am (below_drew HB.out)
 clear L4 HB RG2 RT2
 have L4 := L42
 have HB := HB2
 clear L42 HB2
 go_wp2_with (first
  | (go_at_call 105; (have QQ := first_some x Ae ce lb 0 2 co (by omega) _ RG.out; refine QQ.mono ?_; clear QQ; rintro e W2 ⟨rfl, hb⟩; have B_ := am (HB.out.trans (hb.mono HB.out.size)); have n4 := am (blk_below L4.out hb); have n5 := am (RT.out.below hb); clear HB L4 RT hb; have HB := B_; have L4 := n4; have RT := n5; clear B_ n4 n5; unfold frV))
  | ((with_reducible refine gate_ (.store 117 (.tmp 10) (.tmp 53)) rfl ?_); refine store_part rfl 117 (.tmp 10) (.tmp 53) rfl (w.heap.size + 1 + 1 + 1) 0 117 #[.int .i64 x.f1.f0, .int .i64 x.f1.f1, .int .i64 x.f1.f2, .int .i64 x.f1.f3.f0, .int .i64 x.f1.f3.f1, .slice Ae x.f1.f4.length ce] [.int .i64 0, .int .i64 0, .int .i64 0, .int .i64 0, .int .i64 0, .slice none 0 0] rfl rfl (by first | exact L4.out | exact blk_drew L4.out) (by simp) info_frame (by simp [Value.oneCell']) ?_; intro V3 hG3 hK3; have G3 := am hG3; have K3 := am hK3; clear hG3 hK3))
 have q2 := below_kp HB.out K3.out (show w.heap.size ≤ w.heap.size + 1 + 1 + 1 by omega) HB.out.size
 exact bodyPost_ret (v := .tuple #[.agg (frV x.f1 (.slice Ae x.f1.f4.length ce)), .bool true]) (results_ct Tryz.results77 _ V3 _ _ _ _ _ rfl G3.out hu rfl info_frame) rfl ⟨⟨_, rfl, RdT.kp plain_item RT.out K3.out (fun k cells hk hc => by subst hk; rw [L4.out] at hc; injection hc with hc; injection hc with _ hc _; exact absurd hc (by decide))⟩, q2⟩
theorem pick_one (c : Cf) (hc : c.OK) (round slot : Int) (hr0 : 0 ≤ round) (hr1 : round ≤ 1000000) (da sa oa db sb ob : List UInt8) (af bf : Int) (h1 : da.length ≤ 900) (h2 : oa.length ≤ 900) (h3 : db.length ≤ 900) (h4 : ob.length ≤ 900) (x : S167) (hcase : compT c round slot oa ob af bf = [x]) (A : Option Addr) (m : Nat) (w : World) (hr : c.C w A m) :
  Calls Tryz.prog 77 #[c.v A m, .int .i64 round, .int .i64 slot, .agg #[.string (S da), .string (S sa), .string (S oa), .int .i64 af], .agg #[.string (S db), .string (S sb), .string (S ob), .int .i64 bf]] w (PkYes x.f1 w) := by
 have hu := Tryz.underlying117
 have k1 := fun W => comp_any (S da) (S sa) (S oa) af (decide (c.n ≤ slot)) W
 have k2 := fun W => comp_any (S db) (S sb) (S ob) bf (decide (c.n ≤ slot)) W
 have k3 := fun W => dire_any (S da) (S sa) (S oa) af (decide (c.n ≤ slot)) W
 have k4 := fun W => dire_any (S db) (S sb) (S ob) bf (decide (c.n ≤ slot)) W
 have KC := fun lb W hw hlb => rights_comp c hc round slot hr0 hr1 (S da) (S sa) (S oa) (S db) (S sb) (S ob) af bf (decide (c.n ≤ slot)) oa ob h2 h4 _ _ k1 k2 lb 2 A m W hw hlb
 have KD := fun lb W hw hlb => rights_dire c hc round slot hr0 hr1 (S da) (S sa) (S oa) (S db) (S sb) (S ob) af bf (decide (c.n ≤ slot)) da db h1 h3 _ _ k3 k4 lb 2 A m W hw hlb
 clear k1 k2 k3 k4
 have e1 := size_al2 w (.cells #[.int .i64 c.n, .int .i64 c.pi, .int .i64 c.e, .int .i64 c.g, .int .i64 c.first, .slice A c.pairs.length m] 24)
 have e2 := size_al2 (w.alloc (.cells #[.int .i64 c.n, .int .i64 c.pi, .int .i64 c.e, .int .i64 c.g, .int .i64 c.first, .slice A c.pairs.length m] 24)) (.cells #[.string (S da), .string (S sa), .string (S oa), .int .i64 af] 127)
 have e3 := size_al2 ((w.alloc (.cells #[.int .i64 c.n, .int .i64 c.pi, .int .i64 c.e, .int .i64 c.g, .int .i64 c.first, .slice A c.pairs.length m] 24)).alloc (.cells #[.string (S da), .string (S sa), .string (S oa), .int .i64 af] 127)) (.cells #[.string (S db), .string (S sb), .string (S ob), .int .i64 bf] 127)
 have e4 := size_al2 (((w.alloc (.cells #[.int .i64 c.n, .int .i64 c.pi, .int .i64 c.e, .int .i64 c.g, .int .i64 c.first, .slice A c.pairs.length m] 24)).alloc (.cells #[.string (S da), .string (S sa), .string (S oa), .int .i64 af] 127)).alloc (.cells #[.string (S db), .string (S sb), .string (S ob), .int .i64 bf] 127)) (.cells #[.int .i64 0, .int .i64 0, .int .i64 0, .int .i64 0, .int .i64 0, .slice none 0 0] 117)
 have b0 := ((b_al w (.cells #[.int .i64 c.n, .int .i64 c.pi, .int .i64 c.e, .int .i64 c.g, .int .i64 c.first, .slice A c.pairs.length m] 24)).alloc (by omega) (.cells #[.string (S da), .string (S sa), .string (S oa), .int .i64 af] 127)).alloc (by omega) (.cells #[.string (S db), .string (S sb), .string (S ob), .int .i64 bf] 127) |>.alloc (by omega) (.cells #[.int .i64 0, .int .i64 0, .int .i64 0, .int .i64 0, .int .i64 0, .slice none 0 0] 117)
 have l1 := blk_alloc (blk_alloc (blk_alloc (blk_new w (.cells #[.int .i64 c.n, .int .i64 c.pi, .int .i64 c.e, .int .i64 c.g, .int .i64 c.first, .slice A c.pairs.length m] 24)) (.cells #[.string (S da), .string (S sa), .string (S oa), .int .i64 af] 127)) (.cells #[.string (S db), .string (S sb), .string (S ob), .int .i64 bf] 127)) (.cells #[.int .i64 0, .int .i64 0, .int .i64 0, .int .i64 0, .int .i64 0, .slice none 0 0] 117)
 have l2 := blk_alloc (blk_alloc (blk_new (w.alloc (.cells #[.int .i64 c.n, .int .i64 c.pi, .int .i64 c.e, .int .i64 c.g, .int .i64 c.first, .slice A c.pairs.length m] 24)) (.cells #[.string (S da), .string (S sa), .string (S oa), .int .i64 af] 127)) (.cells #[.string (S db), .string (S sb), .string (S ob), .int .i64 bf] 127)) (.cells #[.int .i64 0, .int .i64 0, .int .i64 0, .int .i64 0, .int .i64 0, .slice none 0 0] 117)
 have l3 := blk_alloc (blk_new ((w.alloc (.cells #[.int .i64 c.n, .int .i64 c.pi, .int .i64 c.e, .int .i64 c.g, .int .i64 c.first, .slice A c.pairs.length m] 24)).alloc (.cells #[.string (S da), .string (S sa), .string (S oa), .int .i64 af] 127)) (.cells #[.string (S db), .string (S sb), .string (S ob), .int .i64 bf] 127)) (.cells #[.int .i64 0, .int .i64 0, .int .i64 0, .int .i64 0, .int .i64 0, .slice none 0 0] 117)
 have l4 := blk_new (((w.alloc (.cells #[.int .i64 c.n, .int .i64 c.pi, .int .i64 c.e, .int .i64 c.g, .int .i64 c.first, .slice A c.pairs.length m] 24)).alloc (.cells #[.string (S da), .string (S sa), .string (S oa), .int .i64 af] 127)).alloc (.cells #[.string (S db), .string (S sb), .string (S ob), .int .i64 bf] 127)) (.cells #[.int .i64 0, .int .i64 0, .int .i64 0, .int .i64 0, .int .i64 0, .slice none 0 0] 117)
 have c1 := hr.below b0
 rw [e1] at e2 l2
 rw [e2] at e3 l3
 rw [e3] at e4 l4
 have L1 := am l1
 have L2 := am l2
 have L3 := am l3
 have L4 := am l4
 have HB := am b0
 have C1 := am c1
 have E4 := am e4
 clear l1 l2 l3 l4 b0 c1 e1 e2 e3 e4 hr
 have HH1 := am h1; have HH2 := am h2; have HH3 := am h3; have HH4 := am h4; clear h1 h2 h3 h4
 go_enter Tryz.func77, Tryz.ntmps77
 unfold compT at hcase
 rw [hcase] at KC
 go_wp2_with (first
  | (go_at_call 104; ((with_reducible refine (KC _ _ (C1.out.below (b_al _ _)) (by first | exact blk_new _ _ | (rw [← E4.out]; exact blk_new _ _))).mono ?_); rintro e W1 ⟨v_, rfl, hR, hb⟩; obtain ⟨lb, co, Ae, ce, rfl, hRG, hRT, hRS⟩ := taken_open hR; have RG := am (World.rangeAt.below_ hRG (Below.refl _ _)); have RT := am hRT; clear hR hRS hRG hRT; have B_ := am ((below_alloc HB.out _).trans (hb.mono (below_alloc HB.out _).size)); have n1 := am (blk_below (blk_alloc L1.out _) hb); have n2 := am (blk_below (blk_alloc L2.out _) hb); have n3 := am (blk_below (blk_alloc L3.out _) hb); have n4 := am (blk_below (blk_alloc L4.out _) hb); have n5 := am ((C1.out.below (b_al _ _)).below (show Below _ _ W1 from hb)); clear HB L1 L2 L3 L4 C1 hb; have HB := B_; have L1 := n1; have L2 := n2; have L3 := n3; have L4 := n4; have C1 := n5; clear B_ n1 n2 n3 n4 n5)))
 have hS0 : True := trivial
 refine start_ (n := 15) (S := fun _ => True) (ds := []) #[false, false, false, false, false, false, false, false, false, false, false, false, false, false, false] (by kernel_rfl) rfl rfl ?st0 (fun hHeld => ?_)
 case st0 => exact hS0
 refine plan_ [.p 0 32, .p 1 33, .p 2 34, .p 3 35, .g 4 36, .g 5 37, .g 6 38, .g 7 39, .g 8 40, .g 9 41, .g 10 42, .g 11 43, .g 12 44, .p 13 45, .p 14 31] ?_
 repeat (first | refine kP ?_ | refine kT hHeld ?_ | refine kG ?_)
 refine planE ?_
 refine done_ (by kernel_rfl) ?_
 have RG2 := am (World.rangeAt.below_ RG.out (below_drew (Below.refl W1.heap.size W1)))
 have RT2 := am (RT.out.below (below_drew (Below.refl W1.heap.size W1)))
 clear RG RT
 have RG := RG2
 have RT := RT2
 have L42 := am (blk_drew L4.out)
 have HB2 := am (below_drew HB.out)
 clear L4 HB RG2 RT2
 have L4 := L42
 have HB := HB2
 clear L42 HB2
 go_wp2_with (first
  | (go_at_call 105; (have QQ := first_some x Ae ce lb 0 1 co (by omega) _ RG.out; refine QQ.mono ?_; clear QQ; rintro e W2 ⟨rfl, hb⟩; have B_ := am (HB.out.trans (hb.mono HB.out.size)); have n4 := am (blk_below L4.out hb); have n5 := am (RT.out.below hb); clear HB L4 RT hb; have HB := B_; have L4 := n4; have RT := n5; clear B_ n4 n5; unfold frV))
  | ((with_reducible refine gate_ (.store 117 (.tmp 10) (.tmp 53)) rfl ?_); refine store_part rfl 117 (.tmp 10) (.tmp 53) rfl (w.heap.size + 1 + 1 + 1) 0 117 #[.int .i64 x.f1.f0, .int .i64 x.f1.f1, .int .i64 x.f1.f2, .int .i64 x.f1.f3.f0, .int .i64 x.f1.f3.f1, .slice Ae x.f1.f4.length ce] [.int .i64 0, .int .i64 0, .int .i64 0, .int .i64 0, .int .i64 0, .slice none 0 0] rfl rfl (by first | exact L4.out | exact blk_drew L4.out) (by simp) info_frame (by simp [Value.oneCell']) ?_; intro V3 hG3 hK3; have G3 := am hG3; have K3 := am hK3; clear hG3 hK3))
 have q2 := below_kp HB.out K3.out (show w.heap.size ≤ w.heap.size + 1 + 1 + 1 by omega) HB.out.size
 exact bodyPost_ret (v := .tuple #[.agg (frV x.f1 (.slice Ae x.f1.f4.length ce)), .bool true]) (results_ct Tryz.results77 _ V3 _ _ _ _ _ rfl G3.out hu rfl info_frame) rfl ⟨⟨_, rfl, RdT.kp plain_item RT.out K3.out (fun k cells hk hc => by subst hk; rw [L4.out] at hc; injection hc with hc; injection hc with _ hc _; exact absurd hc (by decide))⟩, q2⟩
theorem pick_none (c : Cf) (hc : c.OK) (round slot : Int) (hr0 : 0 ≤ round) (hr1 : round ≤ 1000000) (da sa oa db sb ob : List UInt8) (af bf : Int) (h1 : da.length ≤ 900) (h2 : oa.length ≤ 900) (h3 : db.length ≤ 900) (h4 : ob.length ≤ 900) (hcase : compT c round slot oa ob af bf = []) (hdire : direT c round slot da db af bf = []) (A : Option Addr) (m : Nat) (w : World) (hr : c.C w A m) :
  Calls Tryz.prog 77 #[c.v A m, .int .i64 round, .int .i64 slot, .agg #[.string (S da), .string (S sa), .string (S oa), .int .i64 af], .agg #[.string (S db), .string (S sb), .string (S ob), .int .i64 bf]] w (RtNo w) := by
 have hu := Tryz.underlying117
 have k1 := fun W => comp_any (S da) (S sa) (S oa) af (decide (c.n ≤ slot)) W
 have k2 := fun W => comp_any (S db) (S sb) (S ob) bf (decide (c.n ≤ slot)) W
 have k3 := fun W => dire_any (S da) (S sa) (S oa) af (decide (c.n ≤ slot)) W
 have k4 := fun W => dire_any (S db) (S sb) (S ob) bf (decide (c.n ≤ slot)) W
 have KC := fun lb W hw hlb => rights_comp c hc round slot hr0 hr1 (S da) (S sa) (S oa) (S db) (S sb) (S ob) af bf (decide (c.n ≤ slot)) oa ob h2 h4 _ _ k1 k2 lb 2 A m W hw hlb
 have KD := fun lb W hw hlb => rights_dire c hc round slot hr0 hr1 (S da) (S sa) (S oa) (S db) (S sb) (S ob) af bf (decide (c.n ≤ slot)) da db h1 h3 _ _ k3 k4 lb 2 A m W hw hlb
 clear k1 k2 k3 k4
 have e1 := size_al2 w (.cells #[.int .i64 c.n, .int .i64 c.pi, .int .i64 c.e, .int .i64 c.g, .int .i64 c.first, .slice A c.pairs.length m] 24)
 have e2 := size_al2 (w.alloc (.cells #[.int .i64 c.n, .int .i64 c.pi, .int .i64 c.e, .int .i64 c.g, .int .i64 c.first, .slice A c.pairs.length m] 24)) (.cells #[.string (S da), .string (S sa), .string (S oa), .int .i64 af] 127)
 have e3 := size_al2 ((w.alloc (.cells #[.int .i64 c.n, .int .i64 c.pi, .int .i64 c.e, .int .i64 c.g, .int .i64 c.first, .slice A c.pairs.length m] 24)).alloc (.cells #[.string (S da), .string (S sa), .string (S oa), .int .i64 af] 127)) (.cells #[.string (S db), .string (S sb), .string (S ob), .int .i64 bf] 127)
 have e4 := size_al2 (((w.alloc (.cells #[.int .i64 c.n, .int .i64 c.pi, .int .i64 c.e, .int .i64 c.g, .int .i64 c.first, .slice A c.pairs.length m] 24)).alloc (.cells #[.string (S da), .string (S sa), .string (S oa), .int .i64 af] 127)).alloc (.cells #[.string (S db), .string (S sb), .string (S ob), .int .i64 bf] 127)) (.cells #[.int .i64 0, .int .i64 0, .int .i64 0, .int .i64 0, .int .i64 0, .slice none 0 0] 117)
 have b0 := ((b_al w (.cells #[.int .i64 c.n, .int .i64 c.pi, .int .i64 c.e, .int .i64 c.g, .int .i64 c.first, .slice A c.pairs.length m] 24)).alloc (by omega) (.cells #[.string (S da), .string (S sa), .string (S oa), .int .i64 af] 127)).alloc (by omega) (.cells #[.string (S db), .string (S sb), .string (S ob), .int .i64 bf] 127) |>.alloc (by omega) (.cells #[.int .i64 0, .int .i64 0, .int .i64 0, .int .i64 0, .int .i64 0, .slice none 0 0] 117)
 have l1 := blk_alloc (blk_alloc (blk_alloc (blk_new w (.cells #[.int .i64 c.n, .int .i64 c.pi, .int .i64 c.e, .int .i64 c.g, .int .i64 c.first, .slice A c.pairs.length m] 24)) (.cells #[.string (S da), .string (S sa), .string (S oa), .int .i64 af] 127)) (.cells #[.string (S db), .string (S sb), .string (S ob), .int .i64 bf] 127)) (.cells #[.int .i64 0, .int .i64 0, .int .i64 0, .int .i64 0, .int .i64 0, .slice none 0 0] 117)
 have l2 := blk_alloc (blk_alloc (blk_new (w.alloc (.cells #[.int .i64 c.n, .int .i64 c.pi, .int .i64 c.e, .int .i64 c.g, .int .i64 c.first, .slice A c.pairs.length m] 24)) (.cells #[.string (S da), .string (S sa), .string (S oa), .int .i64 af] 127)) (.cells #[.string (S db), .string (S sb), .string (S ob), .int .i64 bf] 127)) (.cells #[.int .i64 0, .int .i64 0, .int .i64 0, .int .i64 0, .int .i64 0, .slice none 0 0] 117)
 have l3 := blk_alloc (blk_new ((w.alloc (.cells #[.int .i64 c.n, .int .i64 c.pi, .int .i64 c.e, .int .i64 c.g, .int .i64 c.first, .slice A c.pairs.length m] 24)).alloc (.cells #[.string (S da), .string (S sa), .string (S oa), .int .i64 af] 127)) (.cells #[.string (S db), .string (S sb), .string (S ob), .int .i64 bf] 127)) (.cells #[.int .i64 0, .int .i64 0, .int .i64 0, .int .i64 0, .int .i64 0, .slice none 0 0] 117)
 have l4 := blk_new (((w.alloc (.cells #[.int .i64 c.n, .int .i64 c.pi, .int .i64 c.e, .int .i64 c.g, .int .i64 c.first, .slice A c.pairs.length m] 24)).alloc (.cells #[.string (S da), .string (S sa), .string (S oa), .int .i64 af] 127)).alloc (.cells #[.string (S db), .string (S sb), .string (S ob), .int .i64 bf] 127)) (.cells #[.int .i64 0, .int .i64 0, .int .i64 0, .int .i64 0, .int .i64 0, .slice none 0 0] 117)
 have c1 := hr.below b0
 rw [e1] at e2 l2
 rw [e2] at e3 l3
 rw [e3] at e4 l4
 have L1 := am l1
 have L2 := am l2
 have L3 := am l3
 have L4 := am l4
 have HB := am b0
 have C1 := am c1
 have E4 := am e4
 clear l1 l2 l3 l4 b0 c1 e1 e2 e3 e4 hr
 have HH1 := am h1; have HH2 := am h2; have HH3 := am h3; have HH4 := am h4; clear h1 h2 h3 h4
 go_enter Tryz.func77, Tryz.ntmps77
 unfold compT at hcase
 rw [hcase] at KC
 unfold direT at hdire
 rw [hdire] at KD
 go_wp2_with (first
  | (go_at_call 104; ((with_reducible refine (KC _ _ (C1.out.below (b_al _ _)) (by first | exact blk_new _ _ | (rw [← E4.out]; exact blk_new _ _))).mono ?_); rintro e W1 ⟨v_, rfl, hR, hb⟩; obtain ⟨Ao, co, rfl⟩ := Kd.R_slice hR; clear hR; have B_ := am ((below_alloc HB.out _).trans (hb.mono (below_alloc HB.out _).size)); have n1 := am (blk_below (blk_alloc L1.out _) hb); have n2 := am (blk_below (blk_alloc L2.out _) hb); have n3 := am (blk_below (blk_alloc L3.out _) hb); have n4 := am (blk_below (blk_alloc L4.out _) hb); have n5 := am ((C1.out.below (b_al _ _)).below (show Below _ _ W1 from hb)); clear HB L1 L2 L3 L4 C1 hb; have HB := B_; have L1 := n1; have L2 := n2; have L3 := n3; have L4 := n4; have C1 := n5; clear B_ n1 n2 n3 n4 n5)))
 have hS0 : True := trivial
 refine start_ (n := 15) (S := fun _ => True) (ds := []) #[false, false, false, false, false, false, false, false, false, false, false, false, false, false, false] (by kernel_rfl) rfl rfl ?st0 (fun hHeld => ?_)
 case st0 => exact hS0
 refine plan_ [.p 0 32, .p 1 33, .p 2 34, .p 3 35, .g 4 36, .g 5 37, .g 6 38, .g 7 39, .g 8 40, .g 9 41, .g 10 42, .g 11 43, .g 12 44, .p 13 45, .p 14 31] ?_
 repeat (first | refine kP ?_ | refine kT hHeld ?_ | refine kG ?_)
 refine planE ?_
 refine done_ (by kernel_rfl) ?_
 have x1 := am (blk_drew L1.out)
 have x2 := am (blk_drew L2.out)
 have x3 := am (blk_drew L3.out)
 have x4 := am (blk_drew L4.out)
 have x5 := am (below_drew HB.out)
 have x6 := am (C1.out.below (show Below _ _ W1.drew from below_drew (Below.refl _ _)))
 clear L1 L2 L3 L4 HB C1 E4
 have L1 := x1
 have L2 := x2
 have L3 := x3
 have L4 := x4
 have HB := x5
 have C1 := x6
 clear x1 x2 x3 x4 x5 x6
 generalize W1.drew = W1 at *
 go_wp2_with (first
  | ((with_reducible refine gate_ (.load 24 (.tmp 5)) rfl ?_); refine wpList_load_row rfl 24 (.tmp 5) rfl w.heap.size rfl _ _ _ _ L1.out Tryz.underlying24 rfl info_conf ?_)
  | ((with_reducible refine gate_ (.load 127 (.tmp 8)) rfl ?_); refine wpList_load_row rfl 127 (.tmp 8) rfl (w.heap.size + 1) rfl _ _ _ _ L2.out Tryz.underlying127 rfl info_side2 ?_)
  | ((with_reducible refine gate_ (.load 127 (.tmp 9)) rfl ?_); refine wpList_load_row rfl 127 (.tmp 9) rfl (w.heap.size + 1 + 1) rfl _ _ _ _ L3.out Tryz.underlying127 rfl info_side2 ?_)
  | (go_at_call 104; ((with_reducible refine (KD _ _ (C1.out.below (b_al _ _)) (blk_new _ _)).mono ?_); rintro e W2 ⟨v_, rfl, hR, hb⟩; obtain ⟨Ao2, co2, rfl⟩ := Kd.R_slice hR; clear hR; have B_ := am ((below_alloc HB.out _).trans (hb.mono (below_alloc HB.out _).size)); have n1 := am (blk_below (blk_alloc L1.out _) hb); have n2 := am (blk_below (blk_alloc L2.out _) hb); have n3 := am (blk_below (blk_alloc L3.out _) hb); have n4 := am (blk_below (blk_alloc L4.out _) hb); have n5 := am ((C1.out.below (b_al _ _)).below (show Below _ _ W2 from hb)); clear HB L1 L2 L3 L4 C1 hb; have HB := B_; have L1 := n1; have L2 := n2; have L3 := n3; have L4 := n4; have C1 := n5; clear B_ n1 n2 n3 n4 n5))
  | (go_at_call 105; refine (first_none Ao2 co2 _).mono ?_; rintro e W3 ⟨rfl, hb⟩; have B_ := am (HB.out.trans (hb.mono HB.out.size)); have n4 := am (blk_below L4.out hb); clear HB L4 hb; have HB := B_; have L4 := n4; clear B_ n4; unfold zFr)
  | ((with_reducible refine gate_ (.store 117 (.tmp 10) (.tmp 69)) rfl ?_); refine store_part rfl 117 (.tmp 10) (.tmp 69) rfl (w.heap.size + 1 + 1 + 1) 0 117 #[.int .i64 0, .int .i64 0, .int .i64 0, .int .i64 0, .int .i64 0, .slice none 0 0] [.int .i64 0, .int .i64 0, .int .i64 0, .int .i64 0, .int .i64 0, .slice none 0 0] rfl rfl (by first | exact L4.out | exact blk_drew L4.out) (by simp) info_frame (by simp [Value.oneCell']) ?_; intro V3 hG3 hK3; have G3 := am hG3; have K3 := am hK3; clear hG3 hK3))
 have q2 := below_kp HB.out K3.out (show w.heap.size ≤ w.heap.size + 1 + 1 + 1 by omega) HB.out.size
 exact bodyPost_ret (v := .tuple #[.agg zFr, .bool false]) (results_ct Tryz.results77 _ V3 _ _ _ _ _ rfl G3.out hu rfl info_frame) rfl ⟨rfl, q2⟩
theorem pick_dire (c : Cf) (hc : c.OK) (round slot : Int) (hr0 : 0 ≤ round) (hr1 : round ≤ 1000000) (da sa oa db sb ob : List UInt8) (af bf : Int) (h1 : da.length ≤ 900) (h2 : oa.length ≤ 900) (h3 : db.length ≤ 900) (h4 : ob.length ≤ 900) (x : S167) (r : List S167) (hcase : compT c round slot oa ob af bf = []) (hdire : direT c round slot da db af bf = x :: r) (A : Option Addr) (m : Nat) (w : World) (hr : c.C w A m) :
  Calls Tryz.prog 77 #[c.v A m, .int .i64 round, .int .i64 slot, .agg #[.string (S da), .string (S sa), .string (S oa), .int .i64 af], .agg #[.string (S db), .string (S sb), .string (S ob), .int .i64 bf]] w (PkYes x.f1 w) := by
 have hu := Tryz.underlying117
 have k1 := fun W => comp_any (S da) (S sa) (S oa) af (decide (c.n ≤ slot)) W
 have k2 := fun W => comp_any (S db) (S sb) (S ob) bf (decide (c.n ≤ slot)) W
 have k3 := fun W => dire_any (S da) (S sa) (S oa) af (decide (c.n ≤ slot)) W
 have k4 := fun W => dire_any (S db) (S sb) (S ob) bf (decide (c.n ≤ slot)) W
 have KC := fun lb W hw hlb => rights_comp c hc round slot hr0 hr1 (S da) (S sa) (S oa) (S db) (S sb) (S ob) af bf (decide (c.n ≤ slot)) oa ob h2 h4 _ _ k1 k2 lb 2 A m W hw hlb
 have KD := fun lb W hw hlb => rights_dire c hc round slot hr0 hr1 (S da) (S sa) (S oa) (S db) (S sb) (S ob) af bf (decide (c.n ≤ slot)) da db h1 h3 _ _ k3 k4 lb 2 A m W hw hlb
 clear k1 k2 k3 k4
 have e1 := size_al2 w (.cells #[.int .i64 c.n, .int .i64 c.pi, .int .i64 c.e, .int .i64 c.g, .int .i64 c.first, .slice A c.pairs.length m] 24)
 have e2 := size_al2 (w.alloc (.cells #[.int .i64 c.n, .int .i64 c.pi, .int .i64 c.e, .int .i64 c.g, .int .i64 c.first, .slice A c.pairs.length m] 24)) (.cells #[.string (S da), .string (S sa), .string (S oa), .int .i64 af] 127)
 have e3 := size_al2 ((w.alloc (.cells #[.int .i64 c.n, .int .i64 c.pi, .int .i64 c.e, .int .i64 c.g, .int .i64 c.first, .slice A c.pairs.length m] 24)).alloc (.cells #[.string (S da), .string (S sa), .string (S oa), .int .i64 af] 127)) (.cells #[.string (S db), .string (S sb), .string (S ob), .int .i64 bf] 127)
 have e4 := size_al2 (((w.alloc (.cells #[.int .i64 c.n, .int .i64 c.pi, .int .i64 c.e, .int .i64 c.g, .int .i64 c.first, .slice A c.pairs.length m] 24)).alloc (.cells #[.string (S da), .string (S sa), .string (S oa), .int .i64 af] 127)).alloc (.cells #[.string (S db), .string (S sb), .string (S ob), .int .i64 bf] 127)) (.cells #[.int .i64 0, .int .i64 0, .int .i64 0, .int .i64 0, .int .i64 0, .slice none 0 0] 117)
 have b0 := ((b_al w (.cells #[.int .i64 c.n, .int .i64 c.pi, .int .i64 c.e, .int .i64 c.g, .int .i64 c.first, .slice A c.pairs.length m] 24)).alloc (by omega) (.cells #[.string (S da), .string (S sa), .string (S oa), .int .i64 af] 127)).alloc (by omega) (.cells #[.string (S db), .string (S sb), .string (S ob), .int .i64 bf] 127) |>.alloc (by omega) (.cells #[.int .i64 0, .int .i64 0, .int .i64 0, .int .i64 0, .int .i64 0, .slice none 0 0] 117)
 have l1 := blk_alloc (blk_alloc (blk_alloc (blk_new w (.cells #[.int .i64 c.n, .int .i64 c.pi, .int .i64 c.e, .int .i64 c.g, .int .i64 c.first, .slice A c.pairs.length m] 24)) (.cells #[.string (S da), .string (S sa), .string (S oa), .int .i64 af] 127)) (.cells #[.string (S db), .string (S sb), .string (S ob), .int .i64 bf] 127)) (.cells #[.int .i64 0, .int .i64 0, .int .i64 0, .int .i64 0, .int .i64 0, .slice none 0 0] 117)
 have l2 := blk_alloc (blk_alloc (blk_new (w.alloc (.cells #[.int .i64 c.n, .int .i64 c.pi, .int .i64 c.e, .int .i64 c.g, .int .i64 c.first, .slice A c.pairs.length m] 24)) (.cells #[.string (S da), .string (S sa), .string (S oa), .int .i64 af] 127)) (.cells #[.string (S db), .string (S sb), .string (S ob), .int .i64 bf] 127)) (.cells #[.int .i64 0, .int .i64 0, .int .i64 0, .int .i64 0, .int .i64 0, .slice none 0 0] 117)
 have l3 := blk_alloc (blk_new ((w.alloc (.cells #[.int .i64 c.n, .int .i64 c.pi, .int .i64 c.e, .int .i64 c.g, .int .i64 c.first, .slice A c.pairs.length m] 24)).alloc (.cells #[.string (S da), .string (S sa), .string (S oa), .int .i64 af] 127)) (.cells #[.string (S db), .string (S sb), .string (S ob), .int .i64 bf] 127)) (.cells #[.int .i64 0, .int .i64 0, .int .i64 0, .int .i64 0, .int .i64 0, .slice none 0 0] 117)
 have l4 := blk_new (((w.alloc (.cells #[.int .i64 c.n, .int .i64 c.pi, .int .i64 c.e, .int .i64 c.g, .int .i64 c.first, .slice A c.pairs.length m] 24)).alloc (.cells #[.string (S da), .string (S sa), .string (S oa), .int .i64 af] 127)).alloc (.cells #[.string (S db), .string (S sb), .string (S ob), .int .i64 bf] 127)) (.cells #[.int .i64 0, .int .i64 0, .int .i64 0, .int .i64 0, .int .i64 0, .slice none 0 0] 117)
 have c1 := hr.below b0
 rw [e1] at e2 l2
 rw [e2] at e3 l3
 rw [e3] at e4 l4
 have L1 := am l1
 have L2 := am l2
 have L3 := am l3
 have L4 := am l4
 have HB := am b0
 have C1 := am c1
 have E4 := am e4
 clear l1 l2 l3 l4 b0 c1 e1 e2 e3 e4 hr
 have HH1 := am h1; have HH2 := am h2; have HH3 := am h3; have HH4 := am h4; clear h1 h2 h3 h4
 go_enter Tryz.func77, Tryz.ntmps77
 unfold compT at hcase
 rw [hcase] at KC
 unfold direT at hdire
 rw [hdire] at KD
 go_wp2_with (first
  | (go_at_call 104; ((with_reducible refine (KC _ _ (C1.out.below (b_al _ _)) (by first | exact blk_new _ _ | (rw [← E4.out]; exact blk_new _ _))).mono ?_); rintro e W1 ⟨v_, rfl, hR, hb⟩; obtain ⟨Ao, co, rfl⟩ := Kd.R_slice hR; clear hR; have B_ := am ((below_alloc HB.out _).trans (hb.mono (below_alloc HB.out _).size)); have n1 := am (blk_below (blk_alloc L1.out _) hb); have n2 := am (blk_below (blk_alloc L2.out _) hb); have n3 := am (blk_below (blk_alloc L3.out _) hb); have n4 := am (blk_below (blk_alloc L4.out _) hb); have n5 := am ((C1.out.below (b_al _ _)).below (show Below _ _ W1 from hb)); clear HB L1 L2 L3 L4 C1 hb; have HB := B_; have L1 := n1; have L2 := n2; have L3 := n3; have L4 := n4; have C1 := n5; clear B_ n1 n2 n3 n4 n5)))
 have hS0 : True := trivial
 refine start_ (n := 15) (S := fun _ => True) (ds := []) #[false, false, false, false, false, false, false, false, false, false, false, false, false, false, false] (by kernel_rfl) rfl rfl ?st0 (fun hHeld => ?_)
 case st0 => exact hS0
 refine plan_ [.p 0 32, .p 1 33, .p 2 34, .p 3 35, .g 4 36, .g 5 37, .g 6 38, .g 7 39, .g 8 40, .g 9 41, .g 10 42, .g 11 43, .g 12 44, .p 13 45, .p 14 31] ?_
 repeat (first | refine kP ?_ | refine kT hHeld ?_ | refine kG ?_)
 refine planE ?_
 refine done_ (by kernel_rfl) ?_
 have x1 := am (blk_drew L1.out)
 have x2 := am (blk_drew L2.out)
 have x3 := am (blk_drew L3.out)
 have x4 := am (blk_drew L4.out)
 have x5 := am (below_drew HB.out)
 have x6 := am (C1.out.below (show Below _ _ W1.drew from below_drew (Below.refl _ _)))
 clear L1 L2 L3 L4 HB C1 E4
 have L1 := x1
 have L2 := x2
 have L3 := x3
 have L4 := x4
 have HB := x5
 have C1 := x6
 clear x1 x2 x3 x4 x5 x6
 generalize W1.drew = W1 at *
 go_wp2_with (first
  | ((with_reducible refine gate_ (.load 24 (.tmp 5)) rfl ?_); refine wpList_load_row rfl 24 (.tmp 5) rfl w.heap.size rfl _ _ _ _ L1.out Tryz.underlying24 rfl info_conf ?_)
  | ((with_reducible refine gate_ (.load 127 (.tmp 8)) rfl ?_); refine wpList_load_row rfl 127 (.tmp 8) rfl (w.heap.size + 1) rfl _ _ _ _ L2.out Tryz.underlying127 rfl info_side2 ?_)
  | ((with_reducible refine gate_ (.load 127 (.tmp 9)) rfl ?_); refine wpList_load_row rfl 127 (.tmp 9) rfl (w.heap.size + 1 + 1) rfl _ _ _ _ L3.out Tryz.underlying127 rfl info_side2 ?_)
  | (go_at_call 104; ((with_reducible refine (KD _ _ (C1.out.below (b_al _ _)) (blk_new _ _)).mono ?_); rintro e W2 ⟨v_, rfl, hR, hb⟩; obtain ⟨lb, co2, Ae, ce, rfl, hRG, hRT, _⟩ := taken_open hR; have RG := am hRG; have RT := am hRT; clear hR hRG hRT; have B_ := am ((below_alloc HB.out _).trans (hb.mono (below_alloc HB.out _).size)); have n1 := am (blk_below (blk_alloc L1.out _) hb); have n2 := am (blk_below (blk_alloc L2.out _) hb); have n3 := am (blk_below (blk_alloc L3.out _) hb); have n4 := am (blk_below (blk_alloc L4.out _) hb); have n5 := am ((C1.out.below (b_al _ _)).below (show Below _ _ W2 from hb)); clear HB L1 L2 L3 L4 C1 hb; have HB := B_; have L1 := n1; have L2 := n2; have L3 := n3; have L4 := n4; have C1 := n5; clear B_ n1 n2 n3 n4 n5))
  | (go_at_call 105; (have QQ := first_some x Ae ce lb 0 (r.length + 1) co2 (by omega) _ RG.out; refine QQ.mono ?_; clear QQ; rintro e W3 ⟨rfl, hb⟩; have B_ := am (HB.out.trans (hb.mono HB.out.size)); have n4 := am (blk_below L4.out hb); have n5 := am (RT.out.below hb); clear HB L4 RT hb; have HB := B_; have L4 := n4; have RT := n5; clear B_ n4 n5; unfold frV))
  | ((with_reducible refine gate_ (.store 117 (.tmp 10) (.tmp 69)) rfl ?_); refine store_part rfl 117 (.tmp 10) (.tmp 69) rfl (w.heap.size + 1 + 1 + 1) 0 117 #[.int .i64 x.f1.f0, .int .i64 x.f1.f1, .int .i64 x.f1.f2, .int .i64 x.f1.f3.f0, .int .i64 x.f1.f3.f1, .slice Ae x.f1.f4.length ce] [.int .i64 0, .int .i64 0, .int .i64 0, .int .i64 0, .int .i64 0, .slice none 0 0] rfl rfl (by first | exact L4.out | exact blk_drew L4.out) (by simp) info_frame (by simp [Value.oneCell']) ?_; intro V3 hG3 hK3; have G3 := am hG3; have K3 := am hK3; clear hG3 hK3))
 have q2 := below_kp HB.out K3.out (show w.heap.size ≤ w.heap.size + 1 + 1 + 1 by omega) HB.out.size
 exact bodyPost_ret (v := .tuple #[.agg (frV x.f1 (.slice Ae x.f1.f4.length ce)), .bool true]) (results_ct Tryz.results77 _ V3 _ _ _ _ _ rfl G3.out hu rfl info_frame) rfl ⟨⟨_, rfl, RdT.kp plain_item RT.out K3.out (fun k cells hk hc => by subst hk; rw [L4.out] at hc; injection hc with hc; injection hc with _ hc _; exact absurd hc (by decide))⟩, q2⟩
def pickL (c : Cf) (round slot : Int) (da oa db ob : List UInt8) (af bf : Int) : Option S117 := match compT c round slot oa ob af bf with
 | [] => (direT c round slot da db af bf).head?.map (fun x => x.f1)
 | [x] => some x.f1
 | x :: y :: _ => if x.f0.toList = y.f0.toList then some x.f1 else none
theorem takenOf_len (c : Cf) (round slot : Int) (l : List UInt8) (b : Bool) : (takenOf c round slot l b).length ≤ 1 := by
 unfold takenOf
 split
 ·split <;> simp
 ·simp
theorem compT_len (c : Cf) (round slot : Int) (oa ob : List UInt8) (af bf : Int) : (compT c round slot oa ob af bf).length ≤ 2 := by
 show (takenOf _ _ _ _ _ ++ takenOf _ _ _ _ _).length ≤ 2
 rw [List.length_append]
 have := takenOf_len c round slot oa (compU af (decide (c.n ≤ slot)))
 have := takenOf_len c round slot ob (compU bf (decide (c.n ≤ slot)))
 omega
theorem pick_no (c : Cf) (hc : c.OK) (round slot : Int) (hr0 : 0 ≤ round) (hr1 : round ≤ 1000000) (da sa oa db sb ob : List UInt8) (af bf : Int) (h1 : da.length ≤ 900) (h2 : oa.length ≤ 900) (h3 : db.length ≤ 900) (h4 : ob.length ≤ 900) (h : pickL c round slot da oa db ob af bf = none) (A : Option Addr) (m : Nat) (w : World) (hr : c.C w A m) :
  Calls Tryz.prog 77 #[c.v A m, .int .i64 round, .int .i64 slot, .agg #[.string (S da), .string (S sa), .string (S oa), .int .i64 af], .agg #[.string (S db), .string (S sb), .string (S ob), .int .i64 bf]] w (RtNo w) := by
 unfold pickL at h
 have hl := compT_len c round slot oa ob af bf
 match hc2 : compT c round slot oa ob af bf with
 | [] =>
  rw [hc2] at h
  match hd : direT c round slot da db af bf with
  | [] => exact pick_none c hc round slot hr0 hr1 da sa oa db sb ob af bf h1 h2 h3 h4 hc2 hd A m w hr
  | x :: r => rw [hd] at h; simp at h
 | [x] => rw [hc2] at h; simp at h
 | [x, y] =>
  rw [hc2] at h
  exact pick_differ c hc round slot hr0 hr1 da sa oa db sb ob af bf h1 h2 h3 h4 x y hc2 (fun e => by simp [e] at h) A m w hr
 | x :: y :: z :: r => rw [hc2] at hl; simp at hl
theorem pick_yes (c : Cf) (hc : c.OK) (round slot : Int) (hr0 : 0 ≤ round) (hr1 : round ≤ 1000000) (da sa oa db sb ob : List UInt8) (af bf : Int) (h1 : da.length ≤ 900) (h2 : oa.length ≤ 900) (h3 : db.length ≤ 900) (h4 : ob.length ≤ 900) (f : S117) (h : pickL c round slot da oa db ob af bf = some f) (A : Option Addr) (m : Nat) (w : World) (hr : c.C w A m) :
  Calls Tryz.prog 77 #[c.v A m, .int .i64 round, .int .i64 slot, .agg #[.string (S da), .string (S sa), .string (S oa), .int .i64 af], .agg #[.string (S db), .string (S sb), .string (S ob), .int .i64 bf]] w (PkYes f w) := by
 unfold pickL at h
 have hl := compT_len c round slot oa ob af bf
 match hc2 : compT c round slot oa ob af bf with
 | [] =>
  rw [hc2] at h
  match hd : direT c round slot da db af bf with
  | [] => rw [hd] at h; simp at h
  | x :: r =>
   rw [hd] at h
   obtain rfl : x.f1 = f := by simpa using h
   exact pick_dire c hc round slot hr0 hr1 da sa oa db sb ob af bf h1 h2 h3 h4 x r hc2 hd A m w hr
 | [x] =>
  rw [hc2] at h
  obtain rfl : x.f1 = f := by simpa using h
  exact pick_one c hc round slot hr0 hr1 da sa oa db sb ob af bf h1 h2 h3 h4 x hc2 A m w hr
 | [x, y] =>
  rw [hc2] at h
  by_cases e : x.f0.toList = y.f0.toList
  ·obtain rfl : x.f1 = f := by simpa [e] using h
   exact pick_two c hc round slot hr0 hr1 da sa oa db sb ob af bf h1 h2 h3 h4 x y hc2 (toL_inj e) A m w hr
  ·simp [e] at h
 | x :: y :: z :: r => rw [hc2] at hl; simp at hl
end Go.Proofs.YtgcgglmmfgmaoaaGreat.PK
end
