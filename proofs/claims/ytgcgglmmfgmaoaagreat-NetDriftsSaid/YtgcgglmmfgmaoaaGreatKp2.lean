/- A part of the proof, without conditions of its own. -/
import Derived.Test.YtgcgglmmfgmaoaaGreatKp1
import Derived.Outline
import Derived.Deep.QuietTactic
import Derived.BigQuiet
import Derived.Deep.Cut
set_option linter.unusedVariables false
set_option linter.unusedSimpArgs false
set_option maxHeartbeats 16000000
set_option maxRecDepth 100000
section
namespace Go.Proofs.YtgcgglmmfgmaoaaGreat.PK
open Go Go.RowKit Go.Proofs.YtgcgglmmfgmaoaaGreatW.PrintWords Go.Proofs.YtgcgglmmfgmaoaaGreatW.PrintLast Go.Proofs.YtgcgglmmfgmaoaaGreatW.PrintMore
attribute [local go_sem] max2_int min2_int max_two min_two
theorem comp_far (s0 s1 s2 : ByteArray) (far : Int) (pair : Bool) (h : 2 ≤ far) (w : World) :
  Calls Tryz.prog 215 #[.agg #[.string s0, .string s1, .string s2, .int .i64 far, .bool pair]] w fun e w' => e = .returned (.tuple #[.string s2, .bool true]) ∧ Below w.heap.size w w' := by
 have hB0 := am (b_al w (.cells #[.string s0, .string s1, .string s2, .int .i64 far, .bool pair] 165))
 have hG0 := am (blk_new w (.cells #[.string s0, .string s1, .string s2, .int .i64 far, .bool pair] 165))
 have b1 : decide (2 ≤ far) = true := decide_eq_true h
 clear h
 go_enter Tryz.func215, Tryz.ntmps215
 go_wp2
 generalize w.alloc (.cells #[.string s0, .string s1, .string s2, .int .i64 far, .bool pair] 165) = W0 at *
 generalize hg : w.heap.size = g at *
 have HG := am hg
 clear hg
 have hS0 : W0.drew.cell? ⟨g, 2, none⟩ = some (.string s2) ∧ W0.drew.cell? ⟨g, 3, none⟩ = some (.int .i64 far) ∧ W0.drew.cell? ⟨g, 4, none⟩ = some (.bool pair) := ⟨(blk_cell (blk_drew hG0.out) 2).trans rfl, (blk_cell (blk_drew hG0.out) 3).trans rfl, (blk_cell (blk_drew hG0.out) 4).trans rfl⟩
 refine start_ (n := 19) (S := fun w' => w'.cell? ⟨g, 2, none⟩ = some (.string s2) ∧ w'.cell? ⟨g, 3, none⟩ = some (.int .i64 far) ∧ w'.cell? ⟨g, 4, none⟩ = some (.bool pair)) (ds := []) #[false, false, false, false, false, false, false, false, false, false, false, false, false, false, false, false, false, false, false] (by kernel_rfl) rfl rfl ?st0 (fun hHeld => ?_)
 case st0 => exact hS0
 refine plan_ [.p 0 4, .p 1 5, .t 2 6, .p 3 7, .p 4 8, .t 5 9, .p 6 10, .p 7 11, .g 8 12, .g 9 13, .g 10 14, .g 11 15, .g 12 16, .g 13 17, .g 14 18, .g 15 19, .p 16 20, .p 17 2, .p 18 3] ?_
 repeat (first | refine kP ?_ | refine kT hHeld ?_ | refine kG ?_)
 refine planE ?_
 refine done_ (by kernel_rfl) ?_
 go_wp2
 go_ret2
 exact ⟨rfl, by rw [HG.out]; exact below_drew hB0.out⟩
theorem comp_one (s0 s1 s2 : ByteArray) (pair : Bool)  (w : World) :
  Calls Tryz.prog 215 #[.agg #[.string s0, .string s1, .string s2, .int .i64 1, .bool pair]] w fun e w' => e = .returned (.tuple #[.string s2, .bool pair]) ∧ Below w.heap.size w w' := by
 have hB0 := am (b_al w (.cells #[.string s0, .string s1, .string s2, .int .i64 1, .bool pair] 165))
 have hG0 := am (blk_new w (.cells #[.string s0, .string s1, .string s2, .int .i64 1, .bool pair] 165))
 go_enter Tryz.func215, Tryz.ntmps215
 go_wp2
 generalize w.alloc (.cells #[.string s0, .string s1, .string s2, .int .i64 1, .bool pair] 165) = W0 at *
 generalize hg : w.heap.size = g at *
 have HG := am hg
 clear hg
 have hS0 : W0.drew.cell? ⟨g, 2, none⟩ = some (.string s2) ∧ W0.drew.cell? ⟨g, 3, none⟩ = some (.int .i64 1) ∧ W0.drew.cell? ⟨g, 4, none⟩ = some (.bool pair) := ⟨(blk_cell (blk_drew hG0.out) 2).trans rfl, (blk_cell (blk_drew hG0.out) 3).trans rfl, (blk_cell (blk_drew hG0.out) 4).trans rfl⟩
 refine start_ (n := 19) (S := fun w' => w'.cell? ⟨g, 2, none⟩ = some (.string s2) ∧ w'.cell? ⟨g, 3, none⟩ = some (.int .i64 1) ∧ w'.cell? ⟨g, 4, none⟩ = some (.bool pair)) (ds := []) #[false, false, false, false, false, false, false, false, false, false, false, false, false, false, false, false, false, false, false] (by kernel_rfl) rfl rfl ?st0 (fun hHeld => ?_)
 case st0 => exact hS0
 refine plan_ [.p 0 4, .p 1 5, .t 2 6, .p 3 7, .p 4 8, .t 5 9, .p 6 10, .p 7 11, .p 8 12, .p 9 13, .t 10 14, .p 11 15, .p 12 16, .p 13 17, .t 14 18, .p 15 19, .p 16 20, .p 17 2, .p 18 3] ?_
 repeat (first | refine kP ?_ | refine kT hHeld ?_ | refine kG ?_)
 refine planE ?_
 refine done_ (by kernel_rfl) ?_
 go_wp2
 go_ret2
 exact ⟨rfl, by rw [HG.out]; exact below_drew hB0.out⟩
theorem comp_near (s0 s1 s2 : ByteArray) (far : Int) (pair : Bool) (h : far ≤ 0) (w : World) :
  Calls Tryz.prog 215 #[.agg #[.string s0, .string s1, .string s2, .int .i64 far, .bool pair]] w fun e w' => e = .returned (.tuple #[.string s2, .bool false]) ∧ Below w.heap.size w w' := by
 have hB0 := am (b_al w (.cells #[.string s0, .string s1, .string s2, .int .i64 far, .bool pair] 165))
 have hG0 := am (blk_new w (.cells #[.string s0, .string s1, .string s2, .int .i64 far, .bool pair] 165))
 have b1 : decide (2 ≤ far) = false := decide_eq_false (by omega)
 have b2 : (far == 1) = false := beq_eq_false_iff_ne.2 (by omega)
 clear h
 go_enter Tryz.func215, Tryz.ntmps215
 go_wp2
 generalize w.alloc (.cells #[.string s0, .string s1, .string s2, .int .i64 far, .bool pair] 165) = W0 at *
 generalize hg : w.heap.size = g at *
 have HG := am hg
 clear hg
 have hS0 : W0.drew.cell? ⟨g, 2, none⟩ = some (.string s2) ∧ W0.drew.cell? ⟨g, 3, none⟩ = some (.int .i64 far) ∧ W0.drew.cell? ⟨g, 4, none⟩ = some (.bool pair) := ⟨(blk_cell (blk_drew hG0.out) 2).trans rfl, (blk_cell (blk_drew hG0.out) 3).trans rfl, (blk_cell (blk_drew hG0.out) 4).trans rfl⟩
 refine start_ (n := 19) (S := fun w' => w'.cell? ⟨g, 2, none⟩ = some (.string s2) ∧ w'.cell? ⟨g, 3, none⟩ = some (.int .i64 far) ∧ w'.cell? ⟨g, 4, none⟩ = some (.bool pair)) (ds := []) #[false, false, false, false, false, false, false, false, false, false, false, false, false, false, false, false, false, false, false] (by kernel_rfl) rfl rfl ?st0 (fun hHeld => ?_)
 case st0 => exact hS0
 refine plan_ [.p 0 4, .p 1 5, .t 2 6, .p 3 7, .p 4 8, .t 5 9, .p 6 10, .p 7 11, .p 8 12, .p 9 13, .t 10 14, .p 11 15, .p 12 16, .g 13 17, .g 14 18, .p 15 19, .p 16 20, .p 17 2, .p 18 3] ?_
 repeat (first | refine kP ?_ | refine kT hHeld ?_ | refine kG ?_)
 refine planE ?_
 refine done_ (by kernel_rfl) ?_
 go_wp2
 go_ret2
 exact ⟨rfl, by rw [HG.out]; exact below_drew hB0.out⟩
theorem dire_one (s0 s1 s2 : ByteArray) (pair : Bool)  (w : World) :
  Calls Tryz.prog 216 #[.agg #[.string s0, .string s1, .string s2, .int .i64 1, .bool pair]] w fun e w' => e = .returned (.tuple #[.string s0, .bool (!pair)]) ∧ Below w.heap.size w w' := by
 have hB0 := am (b_al w (.cells #[.string s0, .string s1, .string s2, .int .i64 1, .bool pair] 169))
 have hG0 := am (blk_new w (.cells #[.string s0, .string s1, .string s2, .int .i64 1, .bool pair] 169))
 go_enter Tryz.func216, Tryz.ntmps216
 go_wp2
 generalize w.alloc (.cells #[.string s0, .string s1, .string s2, .int .i64 1, .bool pair] 169) = W0 at *
 generalize hg : w.heap.size = g at *
 have HG := am hg
 clear hg
 have hS0 : W0.drew.cell? ⟨g, 0, none⟩ = some (.string s0) ∧ W0.drew.cell? ⟨g, 3, none⟩ = some (.int .i64 1) ∧ W0.drew.cell? ⟨g, 4, none⟩ = some (.bool pair) := ⟨(blk_cell (blk_drew hG0.out) 0).trans rfl, (blk_cell (blk_drew hG0.out) 3).trans rfl, (blk_cell (blk_drew hG0.out) 4).trans rfl⟩
 refine start_ (n := 14) (S := fun w' => w'.cell? ⟨g, 0, none⟩ = some (.string s0) ∧ w'.cell? ⟨g, 3, none⟩ = some (.int .i64 1) ∧ w'.cell? ⟨g, 4, none⟩ = some (.bool pair)) (ds := []) #[false, false, false, false, false, false, false, false, false, false, false, false, false, false] (by kernel_rfl) rfl rfl ?st0 (fun hHeld => ?_)
 case st0 => exact hS0
 refine plan_ [.p 0 4, .p 1 5, .t 2 6, .p 3 7, .p 4 8, .t 5 9, .p 6 10, .p 7 11, .p 8 12, .t 9 13, .p 10 14, .p 11 15, .p 12 2, .p 13 3] ?_
 repeat (first | refine kP ?_ | refine kT hHeld ?_ | refine kG ?_)
 refine planE ?_
 refine done_ (by kernel_rfl) ?_
 go_wp2
 go_ret2
 exact ⟨rfl, by rw [HG.out]; exact below_drew hB0.out⟩
theorem dire_no (s0 s1 s2 : ByteArray) (far : Int) (pair : Bool) (h : far ≠ 1) (w : World) :
  Calls Tryz.prog 216 #[.agg #[.string s0, .string s1, .string s2, .int .i64 far, .bool pair]] w fun e w' => e = .returned (.tuple #[.string s0, .bool false]) ∧ Below w.heap.size w w' := by
 have hB0 := am (b_al w (.cells #[.string s0, .string s1, .string s2, .int .i64 far, .bool pair] 169))
 have hG0 := am (blk_new w (.cells #[.string s0, .string s1, .string s2, .int .i64 far, .bool pair] 169))
 have b2 : (far == 1) = false := beq_eq_false_iff_ne.2 h
 clear h
 go_enter Tryz.func216, Tryz.ntmps216
 go_wp2
 generalize w.alloc (.cells #[.string s0, .string s1, .string s2, .int .i64 far, .bool pair] 169) = W0 at *
 generalize hg : w.heap.size = g at *
 have HG := am hg
 clear hg
 have hS0 : W0.drew.cell? ⟨g, 0, none⟩ = some (.string s0) ∧ W0.drew.cell? ⟨g, 3, none⟩ = some (.int .i64 far) ∧ W0.drew.cell? ⟨g, 4, none⟩ = some (.bool pair) := ⟨(blk_cell (blk_drew hG0.out) 0).trans rfl, (blk_cell (blk_drew hG0.out) 3).trans rfl, (blk_cell (blk_drew hG0.out) 4).trans rfl⟩
 refine start_ (n := 14) (S := fun w' => w'.cell? ⟨g, 0, none⟩ = some (.string s0) ∧ w'.cell? ⟨g, 3, none⟩ = some (.int .i64 far) ∧ w'.cell? ⟨g, 4, none⟩ = some (.bool pair)) (ds := []) #[false, false, false, false, false, false, false, false, false, false, false, false, false, false] (by kernel_rfl) rfl rfl ?st0 (fun hHeld => ?_)
 case st0 => exact hS0
 refine plan_ [.p 0 4, .p 1 5, .t 2 6, .p 3 7, .p 4 8, .t 5 9, .p 6 10, .p 7 11, .g 8 12, .g 9 13, .g 10 14, .p 11 15, .p 12 2, .p 13 3] ?_
 repeat (first | refine kP ?_ | refine kT hHeld ?_ | refine kG ?_)
 refine planE ?_
 refine done_ (by kernel_rfl) ?_
 go_wp2
 go_ret2
 exact ⟨rfl, by rw [HG.out]; exact below_drew hB0.out⟩
end Go.Proofs.YtgcgglmmfgmaoaaGreat.PK
end
section
namespace Go.Proofs.YtgcgglmmfgmaoaaGreat.PK
open Go Go.RowKit Go.Proofs.YtgcgglmmfgmaoaaGreatW.PrintWords Go.Proofs.YtgcgglmmfgmaoaaGreatW.PrintLast Go.Proofs.YtgcgglmmfgmaoaaGreatW.PrintMore
attribute [local go_sem] max2_int min2_int max_two min_two
def takenOf (c : Cf) (round slot : Int) (l : List UInt8) (b : Bool) : List S167 := if b = true then (match rightL c round slot l with
 | none => []
 | some f => [⟨S l, f⟩]) else []
def twoOf (c : Cf) (round slot : Int) (l0 l1 : List UInt8) (b0 b1 : Bool) : Nat → List S167
 | 0 => []
 | 1 => takenOf c round slot l0 b0
 | _ => takenOf c round slot l0 b0 ++ takenOf c round slot l1 b1
theorem size_al_ (w : World) (o : Obj) : w.heap.size + 1 = (w.alloc o).heap.size := by simp only [World.alloc, Array.size_push]
theorem info_taken_ : (Tryz.prog.info? 167).map (fun i => (i.zero, i.size, i.bytes)) = some (some (.agg #[.string ⟨#[]⟩, .int .i64 0, .int .i64 0, .int .i64 0, .int .i64 0, .int .i64 0, .slice none 0 0]), 7, 80) := by kernel_rfl
theorem rights_comp (c : Cf) (hc : c.OK) (round slot : Int) (hr0 : 0 ≤ round) (hr1 : round ≤ 1000000) (a0 a1 a2 b0 b1 b2 : ByteArray) (af bf : Int) (pa : Bool) (l0 l1 : List UInt8) (hl0 : l0.length ≤ 900) (hl1 : l1.length ≤ 900) (u0 u1 : Bool)
  (K0 : ∀ W, Calls Tryz.prog 215 #[.agg #[.string a0, .string a1, .string a2, .int .i64 af, .bool pa]] W fun e w' => e = .returned (.tuple #[.string (S l0), .bool u0]) ∧ Below W.heap.size W w')
  (K1 : ∀ W, Calls Tryz.prog 215 #[.agg #[.string b0, .string b1, .string b2, .int .i64 bf, .bool pa]] W fun e w' => e = .returned (.tuple #[.string (S l1), .bool u1]) ∧ Below W.heap.size W w')
  (lb cap : Nat) (A : Option Addr) (m : Nat) (w : World) (hr : c.C w A m) (hlb : w.heap[lb]? = some (.cells #[.iface 165 (.agg #[.string a0, .string a1, .string a2, .int .i64 af, .bool pa]), .iface 165 (.agg #[.string b0, .string b1, .string b2, .int .i64 bf, .bool pa])] 216 (0, 0))) :
  Calls Tryz.prog 104 #[c.v A m, .int .i64 round, .int .i64 slot, .slice (some ⟨lb, 0, none⟩) 2 cap] w fun e w' => ∃ v : Value, e = .returned v ∧ Kd.R k167 167 w' w.heap.size (fun _ => True) v (twoOf c round slot l0 l1 u0 u1 2) ∧ Below w.heap.size w w' := by
 have hLB := am hlb
 have hC0 := am (blk_new w (.cells #[.int .i64 c.n, .int .i64 c.pi, .int .i64 c.e, .int .i64 c.g, .int .i64 c.first, .slice A c.pairs.length m] 24))
 have hB0 := am (b_al w (.cells #[.int .i64 c.n, .int .i64 c.pi, .int .i64 c.e, .int .i64 c.g, .int .i64 c.first, .slice A c.pairs.length m] 24))
 have hCC := am (hr.below hB0.out)
 have hlt := blk_lt hlb
 clear hlb hr
 go_enter Tryz.func104, Tryz.ntmps104
 go_wp2
 generalize w.alloc (.cells #[.int .i64 c.n, .int .i64 c.pi, .int .i64 c.e, .int .i64 c.g, .int .i64 c.first, .slice A c.pairs.length m] 24) = W0 at *
 generalize hg : w.heap.size = g at *
 have HG := am hg
 clear hg
 go_loopw [9, 18] (fun v i w' => ∃ k : Nat, i = .int .i64 k ∧ k ≤ 2 ∧ Aside0 (Kd.R k167 167 w' W0.heap.size (fun _ => True) v (twoOf c round slot l0 l1 u0 u1 k)) ∧ Aside0 (Below W0.heap.size W0 w')) (fun _ i _ => 2 - (intOf i).toNat)
 case atStart => exact ⟨0, rfl, by omega, ⟨Kd.R_nil _ _ _ _ _⟩, ⟨Below.refl _ _⟩⟩
 case round =>
  obtain ⟨k, rfl, hk, hR, hB⟩ := hrel
  have hCw := am (blk_below hC0.out hB.out)
  have hLw := am (blk_below hLB.out (b_tr (show Below w.heap.size w W0 from by rw [HG.out]; exact hB0.out) hB.out))
  have hCCw := am (hCC.out.below hB.out)
  have hgw : g < wr.heap.size := blk_lt hCw.out
  match k, hk, hR with
  | 0, _, hR =>
   have hme : ∀ w, (method 420 165 (.agg #[.string a0, .string a1, .string a2, .int .i64 af, .bool pa]) "plaiting/arb.text").run Tryz.prog w = .ok (215, .agg #[.string a0, .string a1, .string a2, .int .i64 af, .bool pa]) w := fun _ => by kernel_rfl
   have y0 : wr.cell? ⟨lb, 0, none⟩ = some (.iface 165 (.agg #[.string a0, .string a1, .string a2, .int .i64 af, .bool pa])) := (blk_cell hLw.out 0).trans rfl
   have hso : (twoOf c round slot l0 l1 u0 u1 0).length ≤ 1 := by
    show (0 : Nat) ≤ 1; omega
   obtain ⟨Ao, co, hvo⟩ := Kd.R_slice hR.out
   subst hvo
   have HSO := am hso
   clear hso
   have hstep : twoOf c round slot l0 l1 u0 u1 1 = twoOf c round slot l0 l1 u0 u1 0 ++ takenOf c round slot l0 u0 := by rfl
   have HST := am hstep
   clear hstep
   generalize twoOf c round slot l0 l1 u0 u1 0 = xs at *
   rcases Bool.eq_false_or_eq_true u0 with hu | hu
   case inr =>
    have hno : takenOf c round slot l0 u0 = [] := by rw [hu]; rfl
    have HNO := am (HST.out.trans (by rw [hno, List.append_nil]))
    rw [hu] at K0
    clear hno hu HST
    go_wp2_with (go_at_call 215; ((with_reducible refine (K0 _).mono ?_); rintro e W1 ⟨rfl, hb⟩; have B1 := am (hB.out.trans (hb.mono hB.out.size)); have R1 := am (Kd.R_below hR.out hb); clear hb))
    go_roundw
    case rel => exact ⟨1, by simp, by omega, ⟨by rw [HNO.out]; exact R1.out⟩, B1⟩
    case measure => simp [intOf]
   case inl =>
    rw [hu] at K0
    cases hq : rightL c round slot l0 with
    | none =>
     have hno : takenOf c round slot l0 u0 = [] := by rw [hu]; unfold takenOf; rw [if_pos rfl, hq]
     have HNO := am (HST.out.trans (by rw [hno, List.append_nil]))
     have KR := fun W hw => right_no c hc round slot hr0 hr1 l0 hl0 hq A m W hw
     clear hno hu hq HST
     go_wp2_with (first
      | (go_at_call 215; ((with_reducible refine (K0 _).mono ?_); rintro e W1 ⟨rfl, hb⟩; have B1 := am (hB.out.trans (hb.mono hB.out.size)); have R1 := am (Kd.R_below hR.out hb); have C1 := am (blk_below hCw.out hb); have D1 := am (hCCw.out.below hb); clear hb))
      | ((with_reducible refine gate_ (.load 24 (.tmp 4)) rfl ?_); refine wpList_load_row rfl 24 (.tmp 4) rfl g rfl _ _ _ _ C1.out Tryz.underlying24 rfl info_conf ?_)
      | (go_at_call 130; ((refine (KR _ D1.out).mono ?_); rintro e W2 ⟨rfl, hb⟩; have B2 := am (B1.out.trans (hb.mono B1.out.size)); have R2 := am (Kd.R_below R1.out hb); clear hb; unfold zFr)))
     go_roundw
     case rel => exact ⟨1, by simp, by omega, ⟨by rw [HNO.out]; exact Kd.R_alloc R2.out _⟩, ⟨below_alloc B2.out _⟩⟩
     case measure => simp [intOf]
    | some f =>
     have hno : takenOf c round slot l0 u0 = [⟨S l0, f⟩] := by rw [hu]; unfold takenOf; rw [if_pos rfl, hq]
     have HNO := am (HST.out.trans (by rw [hno]))
     have KR := fun W hw => right_some c hc round slot hr0 hr1 l0 hl0 f hq A m W hw
     clear hno hu hq HST
     obtain ⟨fk, fr, fs, ⟨pk, pv⟩, fe⟩ := f
     go_wp2_with (first
      | (go_at_call 215; ((with_reducible refine (K0 _).mono ?_); rintro e W1 ⟨rfl, hb⟩; have B1 := am (hB.out.trans (hb.mono hB.out.size)); have R1 := am (Kd.R_below hR.out hb); have C1 := am (blk_below hCw.out hb); have D1 := am (hCCw.out.below hb); have Z1 := am B1.out.size; clear hb))
      | ((with_reducible refine gate_ (.load 24 (.tmp 4)) rfl ?_); refine wpList_load_row rfl 24 (.tmp 4) rfl g rfl _ _ _ _ C1.out Tryz.underlying24 rfl info_conf ?_)
      | (go_at_call 130; ((refine (KR _ D1.out).mono ?_); rintro e W2 ⟨⟨ve, rfl, hve⟩, hb⟩; obtain ⟨Ae, ce, rfl⟩ := Kd.R_slice hve; have V2 := am (Kd.R_lower hve Z1.out); have B2 := am (B1.out.trans (hb.mono B1.out.size)); have R2 := am (Kd.R_below R1.out hb); have Z2 := am (Nat.le_trans Z1.out hb.size); clear hb hve; unfold frV))
      | ((with_reducible refine gate_ (.load 117 (.tmp 14)) rfl ?_); refine wpList_load_row rfl 117 (.tmp 14) rfl W2.heap.size rfl _ _ _ _ (blk_new W2 _) Tryz.underlying117 rfl info_frame ?_)
      | ((with_reducible refine gate_builtin (b := .append) (xs := #[.tmp 38, .tmp 42]) rfl ?_); at_builtin; refine Kd.R_append k167 (w0 := W0) W0.heap.size rfl (.tmp 38) (.tmp 42) 162 167 (.agg #[.string ⟨#[]⟩, .int .i64 0, .int .i64 0, .int .i64 0, .int .i64 0, .int .i64 0, .slice none 0 0]) 80 rfl Tryz.underlying162 info_taken_ rfl (by decide) (by omega) (.slice Ao xs.length co) xs ⟨S l0, ⟨fk, fr, fs, ⟨pk, pv⟩, fe⟩⟩ [.string (S l0), .int .i64 fk, .int .i64 fr, .int .i64 fs, .int .i64 pk, .int .i64 pv, .slice Ae fe.length ce] (fun _ => True) (fun q => True ∧ some q ≠ (Value.slice Ao xs.length co).ownBlock) rfl (congrArg (fun q => Value.slice (some ⟨q, 0, none⟩) 1 1) (size_al_ W2 _)) (k167_mkM _ _ _ ⟨S l0, ⟨fk, fr, fs, ⟨pk, pv⟩, fe⟩⟩ (Kd.R_apart' (Kd.R_alloc V2.out _) (Kd.R_typed (Kd.R_alloc R2.out _)) (by decide))) (fun _ hq => hq) (fun _ _ => trivial) (Kd.R_alloc R2.out _) ?hB0 ?hb0 ?hl0 ?_; (case hB0 => exact below_alloc B2.out _); (case hb0 => simp; have := Z2.out; omega); (case hl0 => have := HSO.out; omega); intro v3 W3 ho hb hg_ hat_; have R3 := am ho; have B3 := am hb; obtain ⟨A3, c3, hv3⟩ := Kd.R_slice ho; subst hv3; clear ho hb hg_ hat_))
     go_roundw
     case rel => exact ⟨1, by simp, by omega, ⟨by have q := R3.out; rw [List.length_append] at q; rw [HNO.out]; exact q⟩, B3⟩
     case measure => simp [intOf]
  | 1, _, hR =>
   have hme : ∀ w, (method 420 165 (.agg #[.string b0, .string b1, .string b2, .int .i64 bf, .bool pa]) "plaiting/arb.text").run Tryz.prog w = .ok (215, .agg #[.string b0, .string b1, .string b2, .int .i64 bf, .bool pa]) w := fun _ => by kernel_rfl
   have y0 : wr.cell? ⟨lb, 1, none⟩ = some (.iface 165 (.agg #[.string b0, .string b1, .string b2, .int .i64 bf, .bool pa])) := (blk_cell hLw.out 1).trans rfl
   have hso : (twoOf c round slot l0 l1 u0 u1 1).length ≤ 1 := by
    show (takenOf c round slot l0 u0).length ≤ 1
    unfold takenOf
    split
    ·split <;> simp
    ·simp
   obtain ⟨Ao, co, hvo⟩ := Kd.R_slice hR.out
   subst hvo
   have HSO := am hso
   clear hso
   have hstep : twoOf c round slot l0 l1 u0 u1 2 = twoOf c round slot l0 l1 u0 u1 1 ++ takenOf c round slot l1 u1 := by rfl
   have HST := am hstep
   clear hstep
   generalize twoOf c round slot l0 l1 u0 u1 1 = xs at *
   rcases Bool.eq_false_or_eq_true u1 with hu | hu
   case inr =>
    have hno : takenOf c round slot l1 u1 = [] := by rw [hu]; rfl
    have HNO := am (HST.out.trans (by rw [hno, List.append_nil]))
    rw [hu] at K1
    clear hno hu HST
    go_wp2_with (go_at_call 215; ((with_reducible refine (K1 _).mono ?_); rintro e W1 ⟨rfl, hb⟩; have B1 := am (hB.out.trans (hb.mono hB.out.size)); have R1 := am (Kd.R_below hR.out hb); clear hb))
    go_roundw
    case rel => exact ⟨2, by simp, by omega, ⟨by rw [HNO.out]; exact R1.out⟩, B1⟩
    case measure => simp [intOf]
   case inl =>
    rw [hu] at K1
    cases hq : rightL c round slot l1 with
    | none =>
     have hno : takenOf c round slot l1 u1 = [] := by rw [hu]; unfold takenOf; rw [if_pos rfl, hq]
     have HNO := am (HST.out.trans (by rw [hno, List.append_nil]))
     have KR := fun W hw => right_no c hc round slot hr0 hr1 l1 hl1 hq A m W hw
     clear hno hu hq HST
     go_wp2_with (first
      | (go_at_call 215; ((with_reducible refine (K1 _).mono ?_); rintro e W1 ⟨rfl, hb⟩; have B1 := am (hB.out.trans (hb.mono hB.out.size)); have R1 := am (Kd.R_below hR.out hb); have C1 := am (blk_below hCw.out hb); have D1 := am (hCCw.out.below hb); clear hb))
      | ((with_reducible refine gate_ (.load 24 (.tmp 4)) rfl ?_); refine wpList_load_row rfl 24 (.tmp 4) rfl g rfl _ _ _ _ C1.out Tryz.underlying24 rfl info_conf ?_)
      | (go_at_call 130; ((refine (KR _ D1.out).mono ?_); rintro e W2 ⟨rfl, hb⟩; have B2 := am (B1.out.trans (hb.mono B1.out.size)); have R2 := am (Kd.R_below R1.out hb); clear hb; unfold zFr)))
     go_roundw
     case rel => exact ⟨2, by simp, by omega, ⟨by rw [HNO.out]; exact Kd.R_alloc R2.out _⟩, ⟨below_alloc B2.out _⟩⟩
     case measure => simp [intOf]
    | some f =>
     have hno : takenOf c round slot l1 u1 = [⟨S l1, f⟩] := by rw [hu]; unfold takenOf; rw [if_pos rfl, hq]
     have HNO := am (HST.out.trans (by rw [hno]))
     have KR := fun W hw => right_some c hc round slot hr0 hr1 l1 hl1 f hq A m W hw
     clear hno hu hq HST
     obtain ⟨fk, fr, fs, ⟨pk, pv⟩, fe⟩ := f
     go_wp2_with (first
      | (go_at_call 215; ((with_reducible refine (K1 _).mono ?_); rintro e W1 ⟨rfl, hb⟩; have B1 := am (hB.out.trans (hb.mono hB.out.size)); have R1 := am (Kd.R_below hR.out hb); have C1 := am (blk_below hCw.out hb); have D1 := am (hCCw.out.below hb); have Z1 := am B1.out.size; clear hb))
      | ((with_reducible refine gate_ (.load 24 (.tmp 4)) rfl ?_); refine wpList_load_row rfl 24 (.tmp 4) rfl g rfl _ _ _ _ C1.out Tryz.underlying24 rfl info_conf ?_)
      | (go_at_call 130; ((refine (KR _ D1.out).mono ?_); rintro e W2 ⟨⟨ve, rfl, hve⟩, hb⟩; obtain ⟨Ae, ce, rfl⟩ := Kd.R_slice hve; have V2 := am (Kd.R_lower hve Z1.out); have B2 := am (B1.out.trans (hb.mono B1.out.size)); have R2 := am (Kd.R_below R1.out hb); have Z2 := am (Nat.le_trans Z1.out hb.size); clear hb hve; unfold frV))
      | ((with_reducible refine gate_ (.load 117 (.tmp 14)) rfl ?_); refine wpList_load_row rfl 117 (.tmp 14) rfl W2.heap.size rfl _ _ _ _ (blk_new W2 _) Tryz.underlying117 rfl info_frame ?_)
      | ((with_reducible refine gate_builtin (b := .append) (xs := #[.tmp 38, .tmp 42]) rfl ?_); at_builtin; refine Kd.R_append k167 (w0 := W0) W0.heap.size rfl (.tmp 38) (.tmp 42) 162 167 (.agg #[.string ⟨#[]⟩, .int .i64 0, .int .i64 0, .int .i64 0, .int .i64 0, .int .i64 0, .slice none 0 0]) 80 rfl Tryz.underlying162 info_taken_ rfl (by decide) (by omega) (.slice Ao xs.length co) xs ⟨S l1, ⟨fk, fr, fs, ⟨pk, pv⟩, fe⟩⟩ [.string (S l1), .int .i64 fk, .int .i64 fr, .int .i64 fs, .int .i64 pk, .int .i64 pv, .slice Ae fe.length ce] (fun _ => True) (fun q => True ∧ some q ≠ (Value.slice Ao xs.length co).ownBlock) rfl (congrArg (fun q => Value.slice (some ⟨q, 0, none⟩) 1 1) (size_al_ W2 _)) (k167_mkM _ _ _ ⟨S l1, ⟨fk, fr, fs, ⟨pk, pv⟩, fe⟩⟩ (Kd.R_apart' (Kd.R_alloc V2.out _) (Kd.R_typed (Kd.R_alloc R2.out _)) (by decide))) (fun _ hq => hq) (fun _ _ => trivial) (Kd.R_alloc R2.out _) ?hB1 ?hb1 ?hl1 ?_; (case hB1 => exact below_alloc B2.out _); (case hb1 => simp; have := Z2.out; omega); (case hl1 => have := HSO.out; omega); intro v3 W3 ho hb hg_ hat_; have R3 := am ho; have B3 := am hb; obtain ⟨A3, c3, hv3⟩ := Kd.R_slice ho; subst hv3; clear ho hb hg_ hat_))
     go_roundw
     case rel => exact ⟨2, by simp, by omega, ⟨by have q := R3.out; rw [List.length_append] at q; rw [HNO.out]; exact q⟩, B3⟩
     case measure => simp [intOf]
  | 2, _, hR =>
   obtain ⟨Ao, co, hvo⟩ := Kd.R_slice hR.out
   subst hvo
   go_wp2
   go_ret
   exact ⟨_, rfl, Kd.R_lower hR.out (by rw [HG.out]; exact Nat.le_of_lt (blk_lt hC0.out)), b_tr (show Below w.heap.size w W0 from by rw [HG.out]; exact hB0.out) hB.out⟩
  | k + 3, hk, _ => exact absurd hk (by omega)
theorem rights_dire (c : Cf) (hc : c.OK) (round slot : Int) (hr0 : 0 ≤ round) (hr1 : round ≤ 1000000) (a0 a1 a2 b0 b1 b2 : ByteArray) (af bf : Int) (pa : Bool) (l0 l1 : List UInt8) (hl0 : l0.length ≤ 900) (hl1 : l1.length ≤ 900) (u0 u1 : Bool)
  (K0 : ∀ W, Calls Tryz.prog 216 #[.agg #[.string a0, .string a1, .string a2, .int .i64 af, .bool pa]] W fun e w' => e = .returned (.tuple #[.string (S l0), .bool u0]) ∧ Below W.heap.size W w')
  (K1 : ∀ W, Calls Tryz.prog 216 #[.agg #[.string b0, .string b1, .string b2, .int .i64 bf, .bool pa]] W fun e w' => e = .returned (.tuple #[.string (S l1), .bool u1]) ∧ Below W.heap.size W w')
  (lb cap : Nat) (A : Option Addr) (m : Nat) (w : World) (hr : c.C w A m) (hlb : w.heap[lb]? = some (.cells #[.iface 169 (.agg #[.string a0, .string a1, .string a2, .int .i64 af, .bool pa]), .iface 169 (.agg #[.string b0, .string b1, .string b2, .int .i64 bf, .bool pa])] 216 (0, 0))) :
  Calls Tryz.prog 104 #[c.v A m, .int .i64 round, .int .i64 slot, .slice (some ⟨lb, 0, none⟩) 2 cap] w fun e w' => ∃ v : Value, e = .returned v ∧ Kd.R k167 167 w' w.heap.size (fun _ => True) v (twoOf c round slot l0 l1 u0 u1 2) ∧ Below w.heap.size w w' := by
 have hLB := am hlb
 have hC0 := am (blk_new w (.cells #[.int .i64 c.n, .int .i64 c.pi, .int .i64 c.e, .int .i64 c.g, .int .i64 c.first, .slice A c.pairs.length m] 24))
 have hB0 := am (b_al w (.cells #[.int .i64 c.n, .int .i64 c.pi, .int .i64 c.e, .int .i64 c.g, .int .i64 c.first, .slice A c.pairs.length m] 24))
 have hCC := am (hr.below hB0.out)
 have hlt := blk_lt hlb
 clear hlb hr
 go_enter Tryz.func104, Tryz.ntmps104
 go_wp2
 generalize w.alloc (.cells #[.int .i64 c.n, .int .i64 c.pi, .int .i64 c.e, .int .i64 c.g, .int .i64 c.first, .slice A c.pairs.length m] 24) = W0 at *
 generalize hg : w.heap.size = g at *
 have HG := am hg
 clear hg
 go_loopw [9, 18] (fun v i w' => ∃ k : Nat, i = .int .i64 k ∧ k ≤ 2 ∧ Aside0 (Kd.R k167 167 w' W0.heap.size (fun _ => True) v (twoOf c round slot l0 l1 u0 u1 k)) ∧ Aside0 (Below W0.heap.size W0 w')) (fun _ i _ => 2 - (intOf i).toNat)
 case atStart => exact ⟨0, rfl, by omega, ⟨Kd.R_nil _ _ _ _ _⟩, ⟨Below.refl _ _⟩⟩
 case round =>
  obtain ⟨k, rfl, hk, hR, hB⟩ := hrel
  have hCw := am (blk_below hC0.out hB.out)
  have hLw := am (blk_below hLB.out (b_tr (show Below w.heap.size w W0 from by rw [HG.out]; exact hB0.out) hB.out))
  have hCCw := am (hCC.out.below hB.out)
  have hgw : g < wr.heap.size := blk_lt hCw.out
  match k, hk, hR with
  | 0, _, hR =>
   have hme : ∀ w, (method 420 169 (.agg #[.string a0, .string a1, .string a2, .int .i64 af, .bool pa]) "plaiting/arb.text").run Tryz.prog w = .ok (216, .agg #[.string a0, .string a1, .string a2, .int .i64 af, .bool pa]) w := fun _ => by kernel_rfl
   have y0 : wr.cell? ⟨lb, 0, none⟩ = some (.iface 169 (.agg #[.string a0, .string a1, .string a2, .int .i64 af, .bool pa])) := (blk_cell hLw.out 0).trans rfl
   have hso : (twoOf c round slot l0 l1 u0 u1 0).length ≤ 1 := by
    show (0 : Nat) ≤ 1; omega
   obtain ⟨Ao, co, hvo⟩ := Kd.R_slice hR.out
   subst hvo
   have HSO := am hso
   clear hso
   have hstep : twoOf c round slot l0 l1 u0 u1 1 = twoOf c round slot l0 l1 u0 u1 0 ++ takenOf c round slot l0 u0 := by rfl
   have HST := am hstep
   clear hstep
   generalize twoOf c round slot l0 l1 u0 u1 0 = xs at *
   rcases Bool.eq_false_or_eq_true u0 with hu | hu
   case inr =>
    have hno : takenOf c round slot l0 u0 = [] := by rw [hu]; rfl
    have HNO := am (HST.out.trans (by rw [hno, List.append_nil]))
    rw [hu] at K0
    clear hno hu HST
    go_wp2_with (go_at_call 216; ((with_reducible refine (K0 _).mono ?_); rintro e W1 ⟨rfl, hb⟩; have B1 := am (hB.out.trans (hb.mono hB.out.size)); have R1 := am (Kd.R_below hR.out hb); clear hb))
    go_roundw
    case rel => exact ⟨1, by simp, by omega, ⟨by rw [HNO.out]; exact R1.out⟩, B1⟩
    case measure => simp [intOf]
   case inl =>
    rw [hu] at K0
    cases hq : rightL c round slot l0 with
    | none =>
     have hno : takenOf c round slot l0 u0 = [] := by rw [hu]; unfold takenOf; rw [if_pos rfl, hq]
     have HNO := am (HST.out.trans (by rw [hno, List.append_nil]))
     have KR := fun W hw => right_no c hc round slot hr0 hr1 l0 hl0 hq A m W hw
     clear hno hu hq HST
     go_wp2_with (first
      | (go_at_call 216; ((with_reducible refine (K0 _).mono ?_); rintro e W1 ⟨rfl, hb⟩; have B1 := am (hB.out.trans (hb.mono hB.out.size)); have R1 := am (Kd.R_below hR.out hb); have C1 := am (blk_below hCw.out hb); have D1 := am (hCCw.out.below hb); clear hb))
      | ((with_reducible refine gate_ (.load 24 (.tmp 4)) rfl ?_); refine wpList_load_row rfl 24 (.tmp 4) rfl g rfl _ _ _ _ C1.out Tryz.underlying24 rfl info_conf ?_)
      | (go_at_call 130; ((refine (KR _ D1.out).mono ?_); rintro e W2 ⟨rfl, hb⟩; have B2 := am (B1.out.trans (hb.mono B1.out.size)); have R2 := am (Kd.R_below R1.out hb); clear hb; unfold zFr)))
     go_roundw
     case rel => exact ⟨1, by simp, by omega, ⟨by rw [HNO.out]; exact Kd.R_alloc R2.out _⟩, ⟨below_alloc B2.out _⟩⟩
     case measure => simp [intOf]
    | some f =>
     have hno : takenOf c round slot l0 u0 = [⟨S l0, f⟩] := by rw [hu]; unfold takenOf; rw [if_pos rfl, hq]
     have HNO := am (HST.out.trans (by rw [hno]))
     have KR := fun W hw => right_some c hc round slot hr0 hr1 l0 hl0 f hq A m W hw
     clear hno hu hq HST
     obtain ⟨fk, fr, fs, ⟨pk, pv⟩, fe⟩ := f
     go_wp2_with (first
      | (go_at_call 216; ((with_reducible refine (K0 _).mono ?_); rintro e W1 ⟨rfl, hb⟩; have B1 := am (hB.out.trans (hb.mono hB.out.size)); have R1 := am (Kd.R_below hR.out hb); have C1 := am (blk_below hCw.out hb); have D1 := am (hCCw.out.below hb); have Z1 := am B1.out.size; clear hb))
      | ((with_reducible refine gate_ (.load 24 (.tmp 4)) rfl ?_); refine wpList_load_row rfl 24 (.tmp 4) rfl g rfl _ _ _ _ C1.out Tryz.underlying24 rfl info_conf ?_)
      | (go_at_call 130; ((refine (KR _ D1.out).mono ?_); rintro e W2 ⟨⟨ve, rfl, hve⟩, hb⟩; obtain ⟨Ae, ce, rfl⟩ := Kd.R_slice hve; have V2 := am (Kd.R_lower hve Z1.out); have B2 := am (B1.out.trans (hb.mono B1.out.size)); have R2 := am (Kd.R_below R1.out hb); have Z2 := am (Nat.le_trans Z1.out hb.size); clear hb hve; unfold frV))
      | ((with_reducible refine gate_ (.load 117 (.tmp 14)) rfl ?_); refine wpList_load_row rfl 117 (.tmp 14) rfl W2.heap.size rfl _ _ _ _ (blk_new W2 _) Tryz.underlying117 rfl info_frame ?_)
      | ((with_reducible refine gate_builtin (b := .append) (xs := #[.tmp 38, .tmp 42]) rfl ?_); at_builtin; refine Kd.R_append k167 (w0 := W0) W0.heap.size rfl (.tmp 38) (.tmp 42) 162 167 (.agg #[.string ⟨#[]⟩, .int .i64 0, .int .i64 0, .int .i64 0, .int .i64 0, .int .i64 0, .slice none 0 0]) 80 rfl Tryz.underlying162 info_taken_ rfl (by decide) (by omega) (.slice Ao xs.length co) xs ⟨S l0, ⟨fk, fr, fs, ⟨pk, pv⟩, fe⟩⟩ [.string (S l0), .int .i64 fk, .int .i64 fr, .int .i64 fs, .int .i64 pk, .int .i64 pv, .slice Ae fe.length ce] (fun _ => True) (fun q => True ∧ some q ≠ (Value.slice Ao xs.length co).ownBlock) rfl (congrArg (fun q => Value.slice (some ⟨q, 0, none⟩) 1 1) (size_al_ W2 _)) (k167_mkM _ _ _ ⟨S l0, ⟨fk, fr, fs, ⟨pk, pv⟩, fe⟩⟩ (Kd.R_apart' (Kd.R_alloc V2.out _) (Kd.R_typed (Kd.R_alloc R2.out _)) (by decide))) (fun _ hq => hq) (fun _ _ => trivial) (Kd.R_alloc R2.out _) ?hB0 ?hb0 ?hl0 ?_; (case hB0 => exact below_alloc B2.out _); (case hb0 => simp; have := Z2.out; omega); (case hl0 => have := HSO.out; omega); intro v3 W3 ho hb hg_ hat_; have R3 := am ho; have B3 := am hb; obtain ⟨A3, c3, hv3⟩ := Kd.R_slice ho; subst hv3; clear ho hb hg_ hat_))
     go_roundw
     case rel => exact ⟨1, by simp, by omega, ⟨by have q := R3.out; rw [List.length_append] at q; rw [HNO.out]; exact q⟩, B3⟩
     case measure => simp [intOf]
  | 1, _, hR =>
   have hme : ∀ w, (method 420 169 (.agg #[.string b0, .string b1, .string b2, .int .i64 bf, .bool pa]) "plaiting/arb.text").run Tryz.prog w = .ok (216, .agg #[.string b0, .string b1, .string b2, .int .i64 bf, .bool pa]) w := fun _ => by kernel_rfl
   have y0 : wr.cell? ⟨lb, 1, none⟩ = some (.iface 169 (.agg #[.string b0, .string b1, .string b2, .int .i64 bf, .bool pa])) := (blk_cell hLw.out 1).trans rfl
   have hso : (twoOf c round slot l0 l1 u0 u1 1).length ≤ 1 := by
    show (takenOf c round slot l0 u0).length ≤ 1
    unfold takenOf
    split
    ·split <;> simp
    ·simp
   obtain ⟨Ao, co, hvo⟩ := Kd.R_slice hR.out
   subst hvo
   have HSO := am hso
   clear hso
   have hstep : twoOf c round slot l0 l1 u0 u1 2 = twoOf c round slot l0 l1 u0 u1 1 ++ takenOf c round slot l1 u1 := by rfl
   have HST := am hstep
   clear hstep
   generalize twoOf c round slot l0 l1 u0 u1 1 = xs at *
   rcases Bool.eq_false_or_eq_true u1 with hu | hu
   case inr =>
    have hno : takenOf c round slot l1 u1 = [] := by rw [hu]; rfl
    have HNO := am (HST.out.trans (by rw [hno, List.append_nil]))
    rw [hu] at K1
    clear hno hu HST
    go_wp2_with (go_at_call 216; ((with_reducible refine (K1 _).mono ?_); rintro e W1 ⟨rfl, hb⟩; have B1 := am (hB.out.trans (hb.mono hB.out.size)); have R1 := am (Kd.R_below hR.out hb); clear hb))
    go_roundw
    case rel => exact ⟨2, by simp, by omega, ⟨by rw [HNO.out]; exact R1.out⟩, B1⟩
    case measure => simp [intOf]
   case inl =>
    rw [hu] at K1
    cases hq : rightL c round slot l1 with
    | none =>
     have hno : takenOf c round slot l1 u1 = [] := by rw [hu]; unfold takenOf; rw [if_pos rfl, hq]
     have HNO := am (HST.out.trans (by rw [hno, List.append_nil]))
     have KR := fun W hw => right_no c hc round slot hr0 hr1 l1 hl1 hq A m W hw
     clear hno hu hq HST
     go_wp2_with (first
      | (go_at_call 216; ((with_reducible refine (K1 _).mono ?_); rintro e W1 ⟨rfl, hb⟩; have B1 := am (hB.out.trans (hb.mono hB.out.size)); have R1 := am (Kd.R_below hR.out hb); have C1 := am (blk_below hCw.out hb); have D1 := am (hCCw.out.below hb); clear hb))
      | ((with_reducible refine gate_ (.load 24 (.tmp 4)) rfl ?_); refine wpList_load_row rfl 24 (.tmp 4) rfl g rfl _ _ _ _ C1.out Tryz.underlying24 rfl info_conf ?_)
      | (go_at_call 130; ((refine (KR _ D1.out).mono ?_); rintro e W2 ⟨rfl, hb⟩; have B2 := am (B1.out.trans (hb.mono B1.out.size)); have R2 := am (Kd.R_below R1.out hb); clear hb; unfold zFr)))
     go_roundw
     case rel => exact ⟨2, by simp, by omega, ⟨by rw [HNO.out]; exact Kd.R_alloc R2.out _⟩, ⟨below_alloc B2.out _⟩⟩
     case measure => simp [intOf]
    | some f =>
     have hno : takenOf c round slot l1 u1 = [⟨S l1, f⟩] := by rw [hu]; unfold takenOf; rw [if_pos rfl, hq]
     have HNO := am (HST.out.trans (by rw [hno]))
     have KR := fun W hw => right_some c hc round slot hr0 hr1 l1 hl1 f hq A m W hw
     clear hno hu hq HST
     obtain ⟨fk, fr, fs, ⟨pk, pv⟩, fe⟩ := f
     go_wp2_with (first
      | (go_at_call 216; ((with_reducible refine (K1 _).mono ?_); rintro e W1 ⟨rfl, hb⟩; have B1 := am (hB.out.trans (hb.mono hB.out.size)); have R1 := am (Kd.R_below hR.out hb); have C1 := am (blk_below hCw.out hb); have D1 := am (hCCw.out.below hb); have Z1 := am B1.out.size; clear hb))
      | ((with_reducible refine gate_ (.load 24 (.tmp 4)) rfl ?_); refine wpList_load_row rfl 24 (.tmp 4) rfl g rfl _ _ _ _ C1.out Tryz.underlying24 rfl info_conf ?_)
      | (go_at_call 130; ((refine (KR _ D1.out).mono ?_); rintro e W2 ⟨⟨ve, rfl, hve⟩, hb⟩; obtain ⟨Ae, ce, rfl⟩ := Kd.R_slice hve; have V2 := am (Kd.R_lower hve Z1.out); have B2 := am (B1.out.trans (hb.mono B1.out.size)); have R2 := am (Kd.R_below R1.out hb); have Z2 := am (Nat.le_trans Z1.out hb.size); clear hb hve; unfold frV))
      | ((with_reducible refine gate_ (.load 117 (.tmp 14)) rfl ?_); refine wpList_load_row rfl 117 (.tmp 14) rfl W2.heap.size rfl _ _ _ _ (blk_new W2 _) Tryz.underlying117 rfl info_frame ?_)
      | ((with_reducible refine gate_builtin (b := .append) (xs := #[.tmp 38, .tmp 42]) rfl ?_); at_builtin; refine Kd.R_append k167 (w0 := W0) W0.heap.size rfl (.tmp 38) (.tmp 42) 162 167 (.agg #[.string ⟨#[]⟩, .int .i64 0, .int .i64 0, .int .i64 0, .int .i64 0, .int .i64 0, .slice none 0 0]) 80 rfl Tryz.underlying162 info_taken_ rfl (by decide) (by omega) (.slice Ao xs.length co) xs ⟨S l1, ⟨fk, fr, fs, ⟨pk, pv⟩, fe⟩⟩ [.string (S l1), .int .i64 fk, .int .i64 fr, .int .i64 fs, .int .i64 pk, .int .i64 pv, .slice Ae fe.length ce] (fun _ => True) (fun q => True ∧ some q ≠ (Value.slice Ao xs.length co).ownBlock) rfl (congrArg (fun q => Value.slice (some ⟨q, 0, none⟩) 1 1) (size_al_ W2 _)) (k167_mkM _ _ _ ⟨S l1, ⟨fk, fr, fs, ⟨pk, pv⟩, fe⟩⟩ (Kd.R_apart' (Kd.R_alloc V2.out _) (Kd.R_typed (Kd.R_alloc R2.out _)) (by decide))) (fun _ hq => hq) (fun _ _ => trivial) (Kd.R_alloc R2.out _) ?hB1 ?hb1 ?hl1 ?_; (case hB1 => exact below_alloc B2.out _); (case hb1 => simp; have := Z2.out; omega); (case hl1 => have := HSO.out; omega); intro v3 W3 ho hb hg_ hat_; have R3 := am ho; have B3 := am hb; obtain ⟨A3, c3, hv3⟩ := Kd.R_slice ho; subst hv3; clear ho hb hg_ hat_))
     go_roundw
     case rel => exact ⟨2, by simp, by omega, ⟨by have q := R3.out; rw [List.length_append] at q; rw [HNO.out]; exact q⟩, B3⟩
     case measure => simp [intOf]
  | 2, _, hR =>
   obtain ⟨Ao, co, hvo⟩ := Kd.R_slice hR.out
   subst hvo
   go_wp2
   go_ret
   exact ⟨_, rfl, Kd.R_lower hR.out (by rw [HG.out]; exact Nat.le_of_lt (blk_lt hC0.out)), b_tr (show Below w.heap.size w W0 from by rw [HG.out]; exact hB0.out) hB.out⟩
  | k + 3, hk, _ => exact absurd hk (by omega)
end Go.Proofs.YtgcgglmmfgmaoaaGreat.PK
end
section
namespace Go.Proofs.YtgcgglmmfgmaoaaGreat.PK
open Go Go.RowKit Go.Proofs.YtgcgglmmfgmaoaaGreatW.PrintWords Go.Proofs.YtgcgglmmfgmaoaaGreatW.PrintLast Go.Proofs.YtgcgglmmfgmaoaaGreatW.PrintMore
attribute [local go_sem] max2_int min2_int max_two min_two
theorem info_taken2 : (Tryz.prog.info? 167).map (·.size) = some 7 := by kernel_rfl
theorem first_none (A : Option Addr) (m : Nat) (w : World) :
  Calls Tryz.prog 105 #[.slice A 0 m] w (RtNo w) := by
 have hu := Tryz.underlying117
 have hG0 := am (blk_new w (.cells #[.int .i64 0, .int .i64 0, .int .i64 0, .int .i64 0, .int .i64 0, .slice none 0 0] 117))
 have hB0 := am (b_al w (.cells #[.int .i64 0, .int .i64 0, .int .i64 0, .int .i64 0, .int .i64 0, .slice none 0 0] 117))
 go_enter Tryz.func105, Tryz.ntmps105
 go_wp2
 refine bodyPost_ret (v := .tuple #[.agg zFr, .bool false]) (results_ct Tryz.results105 _ _ _ _ _ _ _ rfl hG0.out hu rfl info_frame) rfl ⟨rfl, hB0.out⟩
theorem first_some (f : S167) (Ae : Option Addr) (ce : Nat) (lb lo n m : Nat) (hn : 1 ≤ n) (w : World) (hr : w.rangeAt lb lo [.string f.f0, .int .i64 f.f1.f0, .int .i64 f.f1.f1, .int .i64 f.f1.f2, .int .i64 f.f1.f3.f0, .int .i64 f.f1.f3.f1, .slice Ae f.f1.f4.length ce]) :
  Calls Tryz.prog 105 #[.slice (some ⟨lb, lo, none⟩) n m] w fun e w' => e = .returned (.tuple #[.agg (frV f.f1 (.slice Ae f.f1.f4.length ce)), .bool true]) ∧ Below w.heap.size w w' := by
 have hu := Tryz.underlying117
 have hG0 := am (blk_new w (.cells #[.int .i64 0, .int .i64 0, .int .i64 0, .int .i64 0, .int .i64 0, .slice none 0 0] 117))
 have hB0 := am (b_al w (.cells #[.int .i64 0, .int .i64 0, .int .i64 0, .int .i64 0, .int .i64 0, .slice none 0 0] 117))
 have hR := am (World.rangeAt_alloc hr (.cells #[.int .i64 0, .int .i64 0, .int .i64 0, .int .i64 0, .int .i64 0, .slice none 0 0] 117))
 have b1 : ((n : Int) == 0) = false := beq_eq_false_iff_ne.2 (by omega)
 have b2 : decide ((0 : Int) < (n : Int)) = true := decide_eq_true (by omega)
 have b3 : decide (0 < n) = true := decide_eq_true (by omega)
 have ta : ∀ (v : Value) (W : World), (Instr.typeAssert (.iface 167 v) 20 167 true).run Tryz.prog W = .ok (.tuple #[v, .bool true]) W := fun v W => by kernel_rfl
 clear hr
 go_enter Tryz.func105, Tryz.ntmps105
 generalize hW0 : w.alloc (.cells #[.int .i64 0, .int .i64 0, .int .i64 0, .int .i64 0, .int .i64 0, .slice none 0 0] 117) = W0 at *
 go_wp2_with (first
  | ((with_reducible refine gate_ (.load 167 (.tmp 12)) rfl ?_); refine wpList_load_mid rfl 167 (.tmp 12) rfl lb lo ?ha _ _ hR.out Tryz.underlying167 rfl info_taken2 ?_; (case ha => first | rfl | (simp; done)))
  | ((with_reducible refine gate_ (.store 117 (.tmp 2) (.tmp 21)) rfl ?_); refine store_part rfl 117 (.tmp 2) (.tmp 21) rfl w.heap.size 0 117 #[.int .i64 f.f1.f0, .int .i64 f.f1.f1, .int .i64 f.f1.f2, .int .i64 f.f1.f3.f0, .int .i64 f.f1.f3.f1, .slice Ae f.f1.f4.length ce] [.int .i64 0, .int .i64 0, .int .i64 0, .int .i64 0, .int .i64 0, .slice none 0 0] rfl rfl (blk_alloc hG0.out _) (by simp) info_frame (by simp [Value.oneCell']) ?_; intro V3 hG3 hK3; have G3 := am hG3; have K3 := am hK3; clear hG3 hK3))
 have q1 := below_alloc hB0.out (.cells #[.string f.f0, .int .i64 f.f1.f0, .int .i64 f.f1.f1, .int .i64 f.f1.f2, .int .i64 f.f1.f3.f0, .int .i64 f.f1.f3.f1, .slice Ae f.f1.f4.length ce] 167)
 exact bodyPost_ret (v := .tuple #[.agg (frV f.f1 (.slice Ae f.f1.f4.length ce)), .bool true]) (results_ct Tryz.results105 _ V3 _ _ _ _ _ rfl G3.out hu rfl info_frame) rfl ⟨rfl, below_kp q1 K3.out (Nat.le_refl _) q1.size⟩
end Go.Proofs.YtgcgglmmfgmaoaaGreat.PK
end
section
namespace Go.Proofs.YtgcgglmmfgmaoaaGreat.PK
open Go Go.RowKit Go.Proofs.YtgcgglmmfgmaoaaGreatW.PrintWords Go.Proofs.YtgcgglmmfgmaoaaGreatW.PrintLast Go.Proofs.YtgcgglmmfgmaoaaGreatW.PrintMore
attribute [local go_sem] max2_int min2_int max_two min_two
def RdT {α : Type} (d : Kd α) (T : Nat) (W : World) (v : Value) (xs : List α) : Prop :=
 ∃ (A : Option Addr) (m : Nat), v = .slice A xs.length m ∧ xs.length ≤ m ∧ d.C W A xs.length xs ∧ ∀ ad, A = some ad → ∃ cells, W.heap[ad.block]? = some (.cells cells T (0, 0))
theorem RdT.of_R {α : Type} {d : Kd α} {T base : Nat} {ok : Nat → Prop} {W : World} {v : Value} {xs : List α} (h : d.R T W base ok v xs) : RdT d T W v xs := by
 obtain ⟨A, c, hv⟩ := Kd.R_slice h
 subst hv
 obtain ⟨_, h2, h3⟩ := Kd.R_reads' h
 refine ⟨A, c, rfl, h2, h3, fun ad hA => Kd.R_typed h ad.block ?_⟩
 subst hA; rfl
theorem RdT.below {α : Type} {d : Kd α} {T : Nat} {W W' : World} {v : Value} {xs : List α} (h : RdT d T W v xs) (hb : Below W.heap.size W W') : RdT d T W' v xs := by
 obtain ⟨A, m, h1, h2, h3, h4⟩ := h
 refine ⟨A, m, h1, h2, Kd.C_below h3 hb, fun k hk => ?_⟩
 obtain ⟨cells, hc⟩ := h4 k hk
 exact ⟨cells, blk_below hc hb⟩
theorem RdT.nil {α : Type} (d : Kd α) (T : Nat) (W : World) : RdT d T W (.slice none 0 0) [] := ⟨none, 0, rfl, Nat.le_refl _, Kd.C_nil _ _, fun k hk => by cases hk⟩
def Plain {α : Type} (d : Kd α) : Prop := ∀ w w' x cs, d.K w x cs → d.K w' x cs
theorem plain_int : Plain (Kd.int .i64) := fun _ _ _ _ h => h
theorem plain_item : Plain k55 := fun _ w' x _ h => by obtain rfl := k55_open h; exact k55_mk w' x
theorem plain_call : Plain k52 := fun _ w' x _ h => by obtain rfl := k52_open h; exact k52_mk w' x
theorem plain_act : Plain k83 := fun _ w' x _ h => by obtain rfl := k83_open h; exact k83_mk w' x
theorem plain_side : Plain k127 := fun _ w' x _ h => by obtain rfl := k127_open h; exact k127_mk w' x
theorem RdT.kp {α : Type} {d : Kd α} {T : Nat} {W W' : World} {v : Value} {xs : List α} {F : Nat → Prop} (hp : Plain d) (h : RdT d T W v xs) (hk : Kp F W W') (hF : ∀ k cells, F k → W.heap[k]? = some (.cells cells T (0, 0)) → False) : RdT d T W' v xs := by
 obtain ⟨A, m, h1, h2, ⟨h3, h5, h6⟩, h4⟩ := h
 have hn : ∀ ad, A = some ad → ¬ F ad.block := fun ad hA hf => by
  obtain ⟨cells, hc⟩ := h4 ad hA
  exact hF _ cells hf hc
 refine ⟨A, m, h1, h2, ⟨h3, h5, fun h0 => ?_⟩, fun ad hA => ?_⟩
 ·obtain ⟨ad, hA, hc⟩ := h6 h0
  refine ⟨ad, hA, fun j p hj => ?_⟩
  obtain ⟨c, e1, e2, e3⟩ := hc j p hj
  refine ⟨c, e1, hp _ _ _ _ e2, fun i u hi => hk.cell (e3 i u hi) ?_⟩
  have : (ad.add (j * d.sz + i)).block = ad.block := by unfold Addr.add; split <;> rfl
  rw [this]; exact hn ad hA
 ·obtain ⟨cells, hc⟩ := h4 ad hA
  exact ⟨cells, hk.blk hc (hn ad hA)⟩
abbrev tkV (f : S167) (v : Value) : List Value := [.string f.f0, .int .i64 f.f1.f0, .int .i64 f.f1.f1, .int .i64 f.f1.f2, .int .i64 f.f1.f3.f0, .int .i64 f.f1.f3.f1, v]
theorem taken_open {W : World} {base : Nat} {ok : Nat → Prop} {v : Value} {x : S167} {r : List S167} (h : Kd.R k167 167 W base ok v (x :: r)) :
  ∃ (lb m : Nat) (Ae : Option Addr) (ce : Nat), v = .slice (some ⟨lb, 0, none⟩) (r.length + 1) m ∧ W.rangeAt lb 0 (tkV x (.slice Ae x.f1.f4.length ce)) ∧ RdT k55 55 W (.slice Ae x.f1.f4.length ce) x.f1.f4 ∧ ∀ y r', r = y :: r' → W.cell? ⟨lb, 0, none⟩ = some (.string x.f0) ∧ W.cell? ⟨lb, 7, none⟩ = some (.string y.f0) := by
 obtain ⟨A, m, hv⟩ := Kd.R_slice h
 obtain ⟨lb, rfl⟩ : ∃ lb, A = some ⟨lb, 0, none⟩ := by
  obtain ⟨_, inner, ho, _⟩ := h
  rcases ho.2 with ⟨hv', _⟩ | ⟨g, cap', cur, hv', _⟩
  ·rw [hv] at hv'; injection hv' with h1 h2; simp at h2
  ·rw [hv] at hv'; injection hv' with h1; exact ⟨g, h1⟩
 subst hv
 obtain ⟨c, hc, hM, hcell⟩ := Kd.R_get h x 0 (by omega) (by simp only [List.length_cons]; omega)
 have hM' : k167.M W base _ x c := hM
 obtain ⟨v6, rfl, h6⟩ := k167_openM hM'
 obtain ⟨Ae, ce, rfl⟩ := Kd.R_slice h6
 refine ⟨lb, m, Ae, ce, rfl, fun j u hj => ?_, RdT.of_R h6, fun y r' hy => ?_⟩
 ·have := hcell j u hj
  rw [Addr.add_mid] at this
  simpa using this
 ·subst hy
  obtain ⟨c2, hc2, hM2, hcell2⟩ := Kd.R_get h x 1 (by omega) (by simp only [List.length_cons]; omega)
  have hM2' : k167.M W base _ y c2 := hM2
  obtain ⟨v7, rfl, h7⟩ := k167_openM hM2'
  have e1 := hcell 0 _ rfl
  have e2 := hcell2 0 _ rfl
  exact ⟨e1, e2⟩
end Go.Proofs.YtgcgglmmfgmaoaaGreat.PK
end
section
namespace Go.Proofs.YtgcgglmmfgmaoaaGreat.PK
open Go Go.RowKit Go.Proofs.YtgcgglmmfgmaoaaGreatW.PrintWords Go.Proofs.YtgcgglmmfgmaoaaGreatW.PrintLast Go.Proofs.YtgcgglmmfgmaoaaGreatW.PrintMore
attribute [local go_sem] max2_int min2_int max_two min_two
theorem ring_At (n i d : Int) (hn : 0 < n) (hn2 : n ≤ 1000) (hi : -1000 ≤ i) (hi2 : i ≤ 1000) (hd : -1000 ≤ d) (hd2 : d ≤ 1000) (w : World) :
  Calls Tryz.prog 126 #[.int .i64 n, .int .i64 i, .int .i64 d] w fun e w' => e = .returned (.int .i64 ((i + d) % n)) ∧ w = w' := by
 have hr := tmod_range_q (i + d) n hn
 obtain ⟨hr1, hr2⟩ := hr
 have he : (Int.tmod (i + d) n + n) % n = (i + d) % n := (Int.tmod_eq_emod_of_nonneg (by omega)).symm.trans (tmod_tmod_add (i + d) n hn)
 have HE := am he
 have b1 : decide (n ≤ 0) = false := decide_eq_false (by omega)
 have b2 : (n == 0) = false := beq_eq_false_iff_ne.2 (by omega)
 clear he
 go_enter Tryz.func126, Tryz.ntmps126
 go_wp2
 go_ret
 exact ⟨congrArg (fun x => Ending.returned (.int .i64 x)) HE.out, rfl⟩
theorem conf_Window (n pi e g first : Int) (pv : Value) (h0 : 0 ≤ pi) (h1 : pi ≤ 100000) (w : World) :
  Calls Tryz.prog 124 #[.agg #[.int .i64 n, .int .i64 pi, .int .i64 e, .int .i64 g, .int .i64 first, pv]] w fun e w' => e = .returned (.int .i64 (2 * pi)) ∧ Below w.heap.size w w' := by
 go_enter Tryz.func124, Tryz.ntmps124
 go_wp2
 go_ret
 exact ⟨rfl, (Below.refl _ _).alloc (Nat.le_refl _) _⟩
theorem guard_holds (m dev : Int) (hm : 0 ≤ m) (hm2 : m ≤ 1000000) (w : World) :
  Calls Tryz.prog 150 #[.agg #[.int .i64 m], .int .i64 dev] w fun e w' => e = .returned (.bool (decide (-m ≤ dev) && decide (dev ≤ m))) ∧ Below w.heap.size w w' := by
 go_enter Tryz.func150, Tryz.ntmps150
 go_wp2
 all_goals
  go_ret
  refine ⟨?_, (Below.refl _ _).alloc (Nat.le_refl _) _⟩
  first
   | (rename_i h; rw [decide_eq_true h]; rfl)
   | (rename_i h; rw [decide_eq_false (show ¬ -m ≤ dev by omega)]; rfl)
def admB (pi state dev : Int) : Bool := decide (state ≠ 4) || (decide (-(2 * pi) ≤ dev) && decide (dev ≤ 2 * pi))
theorem guard_Admits (n pi e g first state dev : Int) (pv : Value) (h0 : 0 ≤ pi) (h1 : pi ≤ 100000) (w : World) :
  Calls Tryz.prog 139 #[.agg #[.int .i64 n, .int .i64 pi, .int .i64 e, .int .i64 g, .int .i64 first, pv], .int .i64 state, .int .i64 dev] w fun e w' => e = .returned (.bool (admB pi state dev)) ∧ Below w.heap.size w w' := by
 have HW := fun W => conf_Window n pi e g first pv h0 h1 W
 have HH := fun W => guard_holds (2 * pi) dev (by omega) (by omega) W
 unfold admB
 by_cases hs : state = 4
 ·subst hs
  go_enter Tryz.func139, Tryz.ntmps139
  go_wp2_with (first
   | (go_at_call 124; with_reducible refine (HW _).mono ?_; rintro e W ⟨rfl, hb⟩; have HB := am hb; clear hb)
   | (go_at_call 150; with_reducible refine (HH _).mono ?_; rintro e W2 ⟨rfl, hb⟩; have HB2 := am hb; clear hb))
  go_ret
  exact ⟨ret_b _ _ (by simp), b_tr (b_ac HB.out) HB2.out⟩
 ·have hn : (state != 4) = true := by rw [bne_iff_ne]; exact hs
  have hd : decide (state ≠ 4) = true := decide_eq_true hs
  rw [hd]
  clear hd
  go_enter Tryz.func139, Tryz.ntmps139
  go_wp2_with (first
   | (go_at_call 124; with_reducible refine (HW _).mono ?_; rintro e W ⟨rfl, hb⟩; have HB := am hb; clear hb))
  go_ret
  exact ⟨rfl, b_ac HB.out⟩
def guardS (pi state dev : Int) (s : ByteArray) : ByteArray := if admB pi state dev = true then s else ⟨#[]⟩
theorem guard_Stream (n pi e g first state dev : Int) (pv : Value) (s : ByteArray) (h0 : 0 ≤ pi) (h1 : pi ≤ 100000) (w : World) :
  Calls Tryz.prog 128 #[.agg #[.int .i64 n, .int .i64 pi, .int .i64 e, .int .i64 g, .int .i64 first, pv], .int .i64 state, .int .i64 dev, .string s] w fun e w' => e = .returned (.string (guardS pi state dev s)) ∧ Below w.heap.size w w' := by
 have HW := fun W => guard_Admits n pi e g first state dev pv h0 h1 W
 unfold guardS
 generalize admB pi state dev = b at HW ⊢
 cases b
 all_goals
  go_enter Tryz.func128, Tryz.ntmps128
  go_wp2_with (first
   | (go_at_call 139; with_reducible refine (HW _).mono ?_; rintro e W ⟨rfl, hb⟩; have HB := am hb; clear hb))
  go_ret
  exact ⟨rfl, b_ac HB.out⟩
theorem ring_put (w0 w : World) (g : Nat) (v : Value) (xs ys : List Int) (A : Option Addr) (c : Nat) (hg : w.heap[g]? = some (.cells #[v] 208 (0, 0))) (hgB : w0.heap.size ≤ g)
  (hR : Kd.R (Kd.int .i64) 3 w w0.heap.size (fun _ => True) v xs) (hB : Below w0.heap.size w0 w) (hy : Kd.C (Kd.int .i64) w A ys.length ys) (hl : xs.length + ys.length ≤ 100000) :
  Calls Tryz.prog 125 #[.pointer (some ⟨g, 0, none⟩), .slice A ys.length c] w fun e w' => e = .returned (.tuple #[]) ∧ ∃ v', w'.heap[g]? = some (.cells #[v'] 208 (0, 0)) ∧ Kd.R (Kd.int .i64) 3 w' w0.heap.size (fun _ => True) v' (xs ++ ys) ∧ Below w0.heap.size w0 w' := by
 have hc : w.cell? ⟨g, 0, none⟩ = some v := (blk_cell hg 0).trans rfl
 have HR := am hR
 have HB := am hB
 have HY := am hy
 have HG := am hg
 have HGB := am hgB
 have HL := am hl
 clear hR hB hy hg hgB hl
 obtain ⟨A1, c1, rfl⟩ := Kd.R_slice HR.out
 go_enter Tryz.func125, Tryz.ntmps125
 go_wp2_with ((with_reducible refine gate_builtin (b := .append) (xs := #[.tmp 8, .tmp 9]) rfl ?_); at_builtin; refine Kd.R_append_row (Value.int .i64) (0 : Int) (h1 := fun _ => rfl) (w0 := w0) w0.heap.size rfl (.tmp 8) (.tmp 9) 22 3 (.int .i64 0) 8 rfl Tryz.underlying22 info_int_ rfl (by omega) (.slice A1 xs.length c1) xs ys A ys.length c (fun _ => True) rfl rfl (fun _ _ => trivial) HR.out HY.out HB.out HB.out.size (by have := HL.out; omega) ?_; intro v6 w6 ho hb hg_ hat_; obtain ⟨A6, c6, rfl⟩ := Kd.R_slice ho; rw [List.length_append] at ho; have hg6 := blk_grown HG.out hg_ (Kd.R_ne HR.out HG.out (by decide)); have hc6 : w6.cell? ⟨g, 0, none⟩ = some (.slice A1 xs.length c1) := (blk_cell hg6 0).trans rfl; have hf6 := blk_frozen hg6 0; have HO6 := am ho; have HB6 := am hb; have HG6 := am hg6; clear ho hb hg_ hat_ hg6)
 go_end0
 refine ⟨rfl, _, blk_put HG6.out 0 _ rfl, Kd.R_set HO6.out HG6.out (by decide) 0 _, HB6.out.setCell HGB.out _⟩
def wayF (n last dir : Int) (ow : List Int) : Nat → Int → List Int
 | 0, _ => []
 | k + 1, d => if ow.contains ((last + dir * d) % n) then wayF n last dir ow k (d + 1) else (last + dir * d) % n :: wayF n last dir ow k (d + 1)
theorem wayF_len (n last dir : Int) (ow : List Int) : ∀ k d, (wayF n last dir ow k d).length ≤ k
 | 0, _ => Nat.le_refl _
 | k + 1, d => by
  have := wayF_len n last dir ow k (d + 1)
  unfold wayF
  split
  ·omega
  ·simp; omega
def lastOf (ow : List Int) (dir : Int) : Int := if dir = 1 then ow.getLastD 0 else ow.headD 0
def wayL (n : Int) (ow : List Int) (dir : Int) : List Int := if ow.length = 0 ∨ n < 6 ∨ 12 < n then [] else wayF n (lastOf ow dir) dir ow (n.toNat - 1) 1
end Go.Proofs.YtgcgglmmfgmaoaaGreat.PK
end
section
namespace Go.Proofs.YtgcgglmmfgmaoaaGreat.PK
open Go Go.RowKit Go.Proofs.YtgcgglmmfgmaoaaGreatW.PrintWords Go.Proofs.YtgcgglmmfgmaoaaGreatW.PrintLast Go.Proofs.YtgcgglmmfgmaoaaGreatW.PrintMore
attribute [local go_sem] max2_int min2_int max_two min_two
def link3 (n a b : Int) : Option Int := if (b + 2) % n = a then some (b + n) else none
def link2 (n a b : Int) : Option Int := if (a + 2) % n = b then some (a + n) else link3 n a b
def link1 (n a b : Int) : Option Int := if (b + 1) % n = a then some b else link2 n a b
def link0 (n a b : Int) : Option Int := if (a + 1) % n = b then some a else link1 n a b
def linkK (n a b : Int) : Nat → Option Int
 | 0 => link0 n a b
 | 1 => link1 n a b
 | 2 => link2 n a b
 | 3 => link3 n a b
 | _ => none
theorem ring_At2 (n i d : Int) (hn : 0 < n) (hn2 : n ≤ 1000) (hi : -1000 ≤ i) (hi2 : i ≤ 1000) (hd : -1000 ≤ d) (hd2 : d ≤ 1000) (w : World) :
  Calls Tryz.prog 126 #[.int .i64 n, .int .i64 i, .int .i64 d] w fun e w' => e = .returned (.int .i64 ((i + d) % n)) ∧ w' = w := (ring_At n i d hn hn2 hi hi2 hd hd2 w).mono fun _ _ ⟨h1, h2⟩ => ⟨h1, h2.symm⟩
theorem ring_Link (n a b : Int) (h6 : 6 ≤ n) (h12 : n ≤ 12) (ha : 0 ≤ a) (ha2 : a < n) (hb : 0 ≤ b) (hb2 : b < n) (w : World) :
  Calls Tryz.prog 222 #[.int .i64 n, .int .i64 a, .int .i64 b] w fun e w' => e = .returned (.tuple #[.int .i64 ((link0 n a b).getD 0), .bool (link0 n a b).isSome]) ∧ Below w.heap.size w w' := by
 have d1 : decide (a < 0) = false := decide_eq_false (by omega)
 have d2 : decide (b < 0) = false := decide_eq_false (by omega)
 have d3 : decide (n ≤ a) = false := decide_eq_false (by omega)
 have d4 : decide (n ≤ b) = false := decide_eq_false (by omega)
 generalize hr : link0 n a b = r
 go_enter Tryz.func222, Tryz.ntmps222
 go_wp2
 go_loopw [39] (fun i w' => ∃ k : Nat, i = .int .i64 k ∧ k ≤ 4 ∧ Aside0 (linkK n a b k = r) ∧ Aside0 (Below w.heap.size w w')) (fun i _ => 4 - (intOf i).toNat)
 case atStart => exact ⟨0, rfl, by omega, ⟨hr⟩, ⟨Below.refl _ _⟩⟩
 case round =>
  obtain ⟨k, rfl, hk, hr, hB⟩ := hrel
  match k, hk, hr with
  | 0, _, hr =>
   have hix : ∀ w, (Instr.index 319 (.agg #[.int .i64 a, .int .i64 b, .int .i64 1, .int .i64 b, .int .i64 a, .int .i64 1, .int .i64 a, .int .i64 b, .int .i64 2, .int .i64 b, .int .i64 a, .int .i64 2]) (.int .i64 0)).run Tryz.prog w = .ok (.agg #[.int .i64 a, .int .i64 b, .int .i64 1]) w := fun _ => by kernel_rfl
   have KA := fun W => ring_At2 n a 1 (by omega) (by omega) (by omega) (by omega) (by omega) (by omega) W
   by_cases hx : (a + 1) % n = b
   ·have hb1 : ((a + 1) % n == b) = true := beq_iff_eq.2 hx
    have hv : r = some (a) := by rw [← hr.out]; show link0 n a b = _; unfold link0; rw [if_pos hx]
    subst hv
    clear hx hr
    go_wp2
    go_quiet ((go_at_call 126; exact Calls.quiet_of_same (KA _)))
    go_wp2
    go_ret2
    exact ⟨rfl, pw_below_drewN (below_alloc hB.out _) _⟩
   ·have hb1 : ((a + 1) % n == b) = false := beq_eq_false_iff_ne.2 hx
    have hr2 : Aside0 (linkK n a b 1 = r) := ⟨by rw [← hr.out]; show link1 n a b = link0 n a b; unfold link0; rw [if_neg hx]⟩
    clear hx hr
    go_wp2
    go_quiet ((go_at_call 126; exact Calls.quiet_of_same (KA _)))
    go_wp2
    go_roundw
    case rel => exact ⟨1, rfl, by omega, hr2, ⟨pw_below_drewN (below_alloc hB.out _) _⟩⟩
    case measure => simp [intOf]
  | 1, _, hr =>
   have hix : ∀ w, (Instr.index 319 (.agg #[.int .i64 a, .int .i64 b, .int .i64 1, .int .i64 b, .int .i64 a, .int .i64 1, .int .i64 a, .int .i64 b, .int .i64 2, .int .i64 b, .int .i64 a, .int .i64 2]) (.int .i64 1)).run Tryz.prog w = .ok (.agg #[.int .i64 b, .int .i64 a, .int .i64 1]) w := fun _ => by kernel_rfl
   have KA := fun W => ring_At2 n b 1 (by omega) (by omega) (by omega) (by omega) (by omega) (by omega) W
   by_cases hx : (b + 1) % n = a
   ·have hb1 : ((b + 1) % n == a) = true := beq_iff_eq.2 hx
    have hv : r = some (b) := by rw [← hr.out]; show link1 n a b = _; unfold link1; rw [if_pos hx]
    subst hv
    clear hx hr
    go_wp2
    go_quiet ((go_at_call 126; exact Calls.quiet_of_same (KA _)))
    go_wp2
    go_ret2
    exact ⟨rfl, pw_below_drewN (below_alloc hB.out _) _⟩
   ·have hb1 : ((b + 1) % n == a) = false := beq_eq_false_iff_ne.2 hx
    have hr2 : Aside0 (linkK n a b 2 = r) := ⟨by rw [← hr.out]; show link2 n a b = link1 n a b; unfold link1; rw [if_neg hx]⟩
    clear hx hr
    go_wp2
    go_quiet ((go_at_call 126; exact Calls.quiet_of_same (KA _)))
    go_wp2
    go_roundw
    case rel => exact ⟨2, rfl, by omega, hr2, ⟨pw_below_drewN (below_alloc hB.out _) _⟩⟩
    case measure => simp [intOf]
  | 2, _, hr =>
   have hix : ∀ w, (Instr.index 319 (.agg #[.int .i64 a, .int .i64 b, .int .i64 1, .int .i64 b, .int .i64 a, .int .i64 1, .int .i64 a, .int .i64 b, .int .i64 2, .int .i64 b, .int .i64 a, .int .i64 2]) (.int .i64 2)).run Tryz.prog w = .ok (.agg #[.int .i64 a, .int .i64 b, .int .i64 2]) w := fun _ => by kernel_rfl
   have KA := fun W => ring_At2 n a 2 (by omega) (by omega) (by omega) (by omega) (by omega) (by omega) W
   by_cases hx : (a + 2) % n = b
   ·have hb1 : ((a + 2) % n == b) = true := beq_iff_eq.2 hx
    have hv : r = some (a + n) := by rw [← hr.out]; show link2 n a b = _; unfold link2; rw [if_pos hx]
    subst hv
    clear hx hr
    go_wp2
    go_quiet ((go_at_call 126; exact Calls.quiet_of_same (KA _)))
    go_wp2
    go_ret2
    exact ⟨rfl, pw_below_drewN (below_alloc hB.out _) _⟩
   ·have hb1 : ((a + 2) % n == b) = false := beq_eq_false_iff_ne.2 hx
    have hr2 : Aside0 (linkK n a b 3 = r) := ⟨by rw [← hr.out]; show link3 n a b = link2 n a b; unfold link2; rw [if_neg hx]⟩
    clear hx hr
    go_wp2
    go_quiet ((go_at_call 126; exact Calls.quiet_of_same (KA _)))
    go_wp2
    go_roundw
    case rel => exact ⟨3, rfl, by omega, hr2, ⟨pw_below_drewN (below_alloc hB.out _) _⟩⟩
    case measure => simp [intOf]
  | 3, _, hr =>
   have hix : ∀ w, (Instr.index 319 (.agg #[.int .i64 a, .int .i64 b, .int .i64 1, .int .i64 b, .int .i64 a, .int .i64 1, .int .i64 a, .int .i64 b, .int .i64 2, .int .i64 b, .int .i64 a, .int .i64 2]) (.int .i64 3)).run Tryz.prog w = .ok (.agg #[.int .i64 b, .int .i64 a, .int .i64 2]) w := fun _ => by kernel_rfl
   have KA := fun W => ring_At2 n b 2 (by omega) (by omega) (by omega) (by omega) (by omega) (by omega) W
   by_cases hx : (b + 2) % n = a
   ·have hb1 : ((b + 2) % n == a) = true := beq_iff_eq.2 hx
    have hv : r = some (b + n) := by rw [← hr.out]; show link3 n a b = _; unfold link3; rw [if_pos hx]
    subst hv
    clear hx hr
    go_wp2
    go_quiet ((go_at_call 126; exact Calls.quiet_of_same (KA _)))
    go_wp2
    go_ret2
    exact ⟨rfl, pw_below_drewN (below_alloc hB.out _) _⟩
   ·have hb1 : ((b + 2) % n == a) = false := beq_eq_false_iff_ne.2 hx
    have hr2 : Aside0 (linkK n a b 4 = r) := ⟨by rw [← hr.out]; show none = link3 n a b; unfold link3; rw [if_neg hx]⟩
    clear hx hr
    go_wp2
    go_quiet ((go_at_call 126; exact Calls.quiet_of_same (KA _)))
    go_wp2
    go_roundw
    case rel => exact ⟨4, rfl, by omega, hr2, ⟨pw_below_drewN (below_alloc hB.out _) _⟩⟩
    case measure => simp [intOf]
  | 4, _, hr =>
   have hv : r = none := hr.out.symm
   subst hv
   clear hr
   go_wp2
   go_ret2
   exact ⟨rfl, hB.out⟩
  | k + 5, hk, _ => exact absurd hk (by omega)
end Go.Proofs.YtgcgglmmfgmaoaaGreat.PK
end
section
namespace Go.Proofs.YtgcgglmmfgmaoaaGreat.PK
open Go Go.RowKit Go.Proofs.YtgcgglmmfgmaoaaGreatW.PrintWords Go.Proofs.YtgcgglmmfgmaoaaGreatW.PrintLast Go.Proofs.YtgcgglmmfgmaoaaGreatW.PrintMore
attribute [local go_sem] max2_int min2_int max_two min_two
structure Ft where
 kind : Int
 at_ : Int
 frm : Int
 to_ : Int
 acts : List S83
 devs : List Int
abbrev Ft.v (f : Ft) (AA : Option Addr) (ma : Nat) (AD : Option Addr) (md : Nat) : Value := .agg #[.int .i64 f.kind, .int .i64 f.at_, .int .i64 f.frm, .int .i64 f.to_, .slice AA f.acts.length ma, .slice AD f.devs.length md]
def Ft.C (f : Ft) (w : World) (AA : Option Addr) (ma : Nat) (AD : Option Addr) (md : Nat) : Prop := (Kd.C k83 w AA f.acts.length f.acts ∧ f.acts.length ≤ ma) ∧ Kd.C (Kd.int .i64) w AD f.devs.length f.devs ∧ f.devs.length ≤ md
theorem Ft.C.below {f : Ft} {w W : World} {AA : Option Addr} {ma : Nat} {AD : Option Addr} {md : Nat} (h : f.C w AA ma AD md) (hb : Below w.heap.size w W) : f.C W AA ma AD md := ⟨⟨Kd.C_below h.1.1 hb, h.1.2⟩, Kd.C_below h.2.1 hb, h.2.2⟩
def Ft.locV (f : Ft) (n : Int) : Value := if f.kind = 1 then .iface 201 (.agg #[.int .i64 f.at_]) else if f.kind = 2 then .iface 235 (.agg #[.int .i64 n, .int .i64 f.at_]) else .iface 237 (.agg #[])
def Ft.hits (f : Ft) (n a b : Int) : Bool := if f.kind = 1 then a == f.at_ else if f.kind = 2 then (link0 n a b).isSome && (link0 n a b).getD 0 == f.at_ else false
def Ft.wrong (f : Ft) (i : Int) : Bool := f.kind == 1 && i == f.at_
theorem fault_of (cv : Array Value) (n pi e g first : Int) (pv : Value) (f : Ft) (AA : Option Addr) (ma : Nat) (AD : Option Addr) (md : Nat) (w : World) :
  Calls Tryz.prog 121 #[.agg #[.int .i64 n, .int .i64 pi, .int .i64 e, .int .i64 g, .int .i64 first, pv], f.v AA ma AD md] w fun e w' => e = .returned (f.locV n) ∧ Below w.heap.size w w' := by
 unfold Ft.locV
 by_cases h1 : f.kind = 1
 ·have b1 : (f.kind == 1) = true := beq_iff_eq.2 h1
  rw [if_pos h1]
  go_enter Tryz.func121, Tryz.ntmps121
  go_wp2
  go_ret
  exact ⟨rfl, by repeat (first | exact Below.refl _ _ | exact b_al _ _ | apply below_alloc)⟩
 ·have b1 : (f.kind == 1) = false := beq_eq_false_iff_ne.2 h1
  rw [if_neg h1]
  by_cases h2 : f.kind = 2
  ·have b2 : (f.kind == 2) = true := beq_iff_eq.2 h2
   rw [if_pos h2]
   go_enter Tryz.func121, Tryz.ntmps121
   go_wp2
   go_ret
   exact ⟨rfl, by repeat (first | exact Below.refl _ _ | exact b_al _ _ | apply below_alloc)⟩
  ·have b2 : (f.kind == 2) = false := beq_eq_false_iff_ne.2 h2
   rw [if_neg h2]
   go_enter Tryz.func121, Tryz.ntmps121
   go_wp2
   go_ret
   exact ⟨rfl, by repeat (first | exact Below.refl _ _ | exact b_al _ _ | apply below_alloc)⟩
theorem node_hits (at_ a b : Int) (w : World) :
  Calls Tryz.prog 217 #[.agg #[.int .i64 at_], .int .i64 a, .int .i64 b] w fun e w' => e = .returned (.bool (a == at_)) ∧ Below w.heap.size w w' := by
 go_enter Tryz.func217, Tryz.ntmps217
 go_wp2
 go_ret
 exact ⟨rfl, by repeat (first | exact Below.refl _ _ | exact b_al _ _ | apply below_alloc)⟩
theorem node_wrong (at_ a : Int) (w : World) :
  Calls Tryz.prog 122 #[.agg #[.int .i64 at_], .int .i64 a] w fun e w' => e = .returned (.bool (a == at_)) ∧ Below w.heap.size w w' := by
 go_enter Tryz.func122, Tryz.ntmps122
 go_wp2
 go_ret
 exact ⟨rfl, by repeat (first | exact Below.refl _ _ | exact b_al _ _ | apply below_alloc)⟩
theorem nowhere_hits (a b : Int) (w : World) :
  Calls Tryz.prog 223 #[.agg #[], .int .i64 a, .int .i64 b] w fun e w' => e = .returned (.bool false) ∧ Below w.heap.size w w' := by
 go_enter Tryz.func223, Tryz.ntmps223
 go_wp2
 go_ret
 exact ⟨rfl, by repeat (first | exact Below.refl _ _ | exact b_al _ _ | apply below_alloc)⟩
theorem link_hits (n at_ a b : Int) (h6 : 6 ≤ n) (h12 : n ≤ 12) (ha : 0 ≤ a) (ha2 : a < n) (hb : 0 ≤ b) (hb2 : b < n) (w : World) :
  Calls Tryz.prog 220 #[.agg #[.int .i64 n, .int .i64 at_], .int .i64 a, .int .i64 b] w fun e w' => e = .returned (.bool ((link0 n a b).isSome && (link0 n a b).getD 0 == at_)) ∧ Below w.heap.size w w' := by
 have KL := fun W => ring_Link n a b h6 h12 ha ha2 hb hb2 W
 generalize link0 n a b = l at *
 have HB := am (b_al w (.cells #[.int .i64 n, .int .i64 at_] 235))
 have L := am (blk_new w (.cells #[.int .i64 n, .int .i64 at_] 235))
 clear h6 h12 ha ha2 hb hb2
 cases l with
 | none =>
  go_enter Tryz.func220, Tryz.ntmps220
  go_wp2_with (go_at_call 222; refine (KL _).mono ?_; rintro e W1 ⟨rfl, hb⟩; have n1 := am (HB.out.trans (hb.mono HB.out.size)); have n2 := am (blk_below L.out hb); clear HB L hb; have HB := n1; have L := n2; clear n1 n2; simp only [Option.getD_none, Option.isSome_none])
  go_ret
  exact ⟨rfl, by first | exact HB.out | exact below_drew HB.out⟩
 | some l =>
  go_enter Tryz.func220, Tryz.ntmps220
  go_wp2_with (go_at_call 222; refine (KL _).mono ?_; rintro e W1 ⟨rfl, hb⟩; have n1 := am (HB.out.trans (hb.mono HB.out.size)); have n2 := am (blk_below L.out hb); clear HB L hb; have HB := n1; have L := n2; clear n1 n2; have y1 := (blk_cell L.out 1).trans rfl; simp only [Option.getD_some, Option.isSome_some])
  go_ret
  exact ⟨rfl, by first | exact HB.out | exact below_drew HB.out⟩
theorem ta_yes (v : Value) (W : World) : (Instr.typeAssert (.iface 201 v) 204 201 true).run Tryz.prog W = .ok (.tuple #[v, .bool true]) W := by kernel_rfl
theorem ta_link (v : Value) (W : World) : (Instr.typeAssert (.iface 235 v) 204 201 true).run Tryz.prog W = .ok (.tuple #[.agg #[.int .i64 0], .bool false]) W := by kernel_rfl
theorem ta_nowhere (v : Value) (W : World) : (Instr.typeAssert (.iface 237 v) 204 201 true).run Tryz.prog W = .ok (.tuple #[.agg #[.int .i64 0], .bool false]) W := by kernel_rfl
theorem info_fault : (Tryz.prog.info? 27).map (·.size) = some 6 := by kernel_rfl
theorem fault_Hits (n pi e g first : Int) (pv : Value) (h6 : 6 ≤ n) (h12 : n ≤ 12) (f : Ft) (AA : Option Addr) (ma : Nat) (AD : Option Addr) (md : Nat) (a b : Int) (ha : 0 ≤ a) (ha2 : a < n) (hb : 0 ≤ b) (hb2 : b < n) (w : World) :
  Calls Tryz.prog 148 #[.agg #[.int .i64 n, .int .i64 pi, .int .i64 e, .int .i64 g, .int .i64 first, pv], f.v AA ma AD md, .int .i64 a, .int .i64 b] w fun e w' => e = .returned (.bool (f.hits n a b)) ∧ Below w.heap.size w w' := by
 have KO := fun W => fault_of #[] n pi e g first pv f AA ma AD md W
 have K1 := fun W => node_hits f.at_ a b W
 have K2 := fun W => link_hits n f.at_ a b h6 h12 ha ha2 hb hb2 W
 have K3 := fun W => nowhere_hits a b W
 clear h6 h12 ha ha2 hb hb2
 have HB := am ((b_al w (.cells #[.int .i64 n, .int .i64 pi, .int .i64 e, .int .i64 g, .int .i64 first, pv] 24)).alloc (by simp) (.cells #[.int .i64 f.kind, .int .i64 f.at_, .int .i64 f.frm, .int .i64 f.to_, .slice AA f.acts.length ma, .slice AD f.devs.length md] 27))
 unfold Ft.hits
 unfold Ft.locV at KO
 by_cases h1 : f.kind = 1
 ·rw [if_pos h1]
  simp only [if_pos h1] at KO
  have hme : ∀ w, (method 420 201 (.agg #[.int .i64 f.at_]) "plaiting/fault.hits").run Tryz.prog w = .ok (217, .agg #[.int .i64 f.at_]) w := fun _ => by kernel_rfl
  clear h1 K2 K3
  go_enter Tryz.func148, Tryz.ntmps148
  go_wp2_with (first
   | (go_at_call 121; refine (KO _).mono ?_; rintro e W1 ⟨rfl, hb⟩; replace HB := am (HB.out.trans (hb.mono HB.out.size)); clear hb)
   | (go_at_call 217; refine (K1 _).mono ?_; rintro e W2 ⟨rfl, hb⟩; replace HB := am (HB.out.trans (hb.mono HB.out.size)); clear hb))
  go_ret
  exact ⟨rfl, HB.out⟩
 ·rw [if_neg h1]
  simp only [if_neg h1] at KO
  by_cases h2 : f.kind = 2
  ·rw [if_pos h2]
   simp only [if_pos h2] at KO
   have hme : ∀ w, (method 420 235 (.agg #[.int .i64 n, .int .i64 f.at_]) "plaiting/fault.hits").run Tryz.prog w = .ok (220, .agg #[.int .i64 n, .int .i64 f.at_]) w := fun _ => by kernel_rfl
   clear h1 h2 K1 K3
   go_enter Tryz.func148, Tryz.ntmps148
   go_wp2_with (first
    | (go_at_call 121; refine (KO _).mono ?_; rintro e W1 ⟨rfl, hb⟩; replace HB := am (HB.out.trans (hb.mono HB.out.size)); clear hb)
    | (go_at_call 220; refine (K2 _).mono ?_; rintro e W2 ⟨rfl, hb⟩; replace HB := am (HB.out.trans (hb.mono HB.out.size)); clear hb))
   go_ret
   exact ⟨rfl, HB.out⟩
  ·rw [if_neg h2]
   simp only [if_neg h2] at KO
   have hme : ∀ w, (method 420 237 (.agg #[]) "plaiting/fault.hits").run Tryz.prog w = .ok (223, .agg #[]) w := fun _ => by kernel_rfl
   clear h1 h2 K1 K2
   go_enter Tryz.func148, Tryz.ntmps148
   go_wp2_with (first
    | (go_at_call 121; refine (KO _).mono ?_; rintro e W1 ⟨rfl, hb⟩; replace HB := am (HB.out.trans (hb.mono HB.out.size)); clear hb)
    | (go_at_call 223; refine (K3 _).mono ?_; rintro e W2 ⟨rfl, hb⟩; replace HB := am (HB.out.trans (hb.mono HB.out.size)); clear hb))
   go_ret
   exact ⟨rfl, HB.out⟩
end Go.Proofs.YtgcgglmmfgmaoaaGreat.PK
end
section
namespace Go.Proofs.YtgcgglmmfgmaoaaGreat.PK
open Go Go.RowKit Go.Proofs.YtgcgglmmfgmaoaaGreatW.PrintWords Go.Proofs.YtgcgglmmfgmaoaaGreatW.PrintLast Go.Proofs.YtgcgglmmfgmaoaaGreatW.PrintMore
attribute [local go_sem] max2_int min2_int max_two min_two
def pickN (n many : Int) : Int := if many ≤ 0 then -1 else n % many
theorem fault_pick_calls (n many : Int) (hm : many ≤ 1000000) (w : World) :
  Calls Tryz.prog 123 #[.int .i64 n, .int .i64 many] w fun e w' => e = .returned (.int .i64 (pickN n many)) ∧ Below w.heap.size w w' := by
 refine (fault_pick.calls n many (pickN n many) w ?_).mono fun e w' ⟨h1, h2⟩ => ⟨h1, h2.below⟩
 unfold fault_pick.f pickN
 by_cases h : many ≤ 0
 ·rw [if_pos h, if_pos h]
 ·rw [if_neg h, if_neg h, if_neg (by omega)]
  have h1 := tmod_range_q n many (by omega)
  rw [w64_q _ (by omega) (by omega), tmod_tmod_add n many (by omega)]
theorem pickN_range (n many : Int) : pickN n many < 0 ∧ many ≤ 0 ∨ 0 ≤ pickN n many ∧ pickN n many < many := by
 unfold pickN
 by_cases h : many ≤ 0
 ·rw [if_pos h]; left; omega
 ·rw [if_neg h]; right; exact ⟨Int.emod_nonneg _ (by omega), Int.emod_lt_of_pos _ (by omega)⟩
def Ft.idle (f : Ft) (round : Int) : Bool := decide (round < f.frm) || decide (f.to_ ≤ round)
def Ft.dev (f : Ft) (pi round owner i dev : Int) : Int :=
 if f.wrong owner = true ∧ f.idle round = false then (if pickN (13 * round + i) f.devs.length < 0 then 0 else min (max (rd f.devs (pickN (13 * round + i) f.devs.length)) (-(3 * (2 * pi)))) (3 * (2 * pi))) else dev
theorem fault_Dev (n pi e g first : Int) (pv : Value) (h0 : 0 ≤ pi) (h1 : pi ≤ 100000) (f : Ft) (AA : Option Addr) (ma : Nat) (AD : Option Addr) (md : Nat) (round owner i dev : Int) (hd : f.devs.length ≤ 1000) (hr0 : 0 ≤ round) (hr1 : round ≤ 1000000) (hi0 : 0 ≤ i) (hi1 : i ≤ 1000) (w : World) (hf : f.C w AA ma AD md) :
  Calls Tryz.prog 99 #[.agg #[.int .i64 n, .int .i64 pi, .int .i64 e, .int .i64 g, .int .i64 first, pv], f.v AA ma AD md, .int .i64 round, .int .i64 owner, .int .i64 i, .int .i64 dev] w fun e w' => e = .returned (.int .i64 (f.dev pi round owner i dev)) ∧ Below w.heap.size w w' := by
 have KO := fun W => fault_of #[] n pi e g first pv f AA ma AD md W
 have K1 := fun W => node_wrong f.at_ owner W
 have KP := fun W => fault_pick_calls (13 * round + i) f.devs.length (by omega) W
 have KW := fun W => conf_Window n pi e g first pv h0 h1 W
 have HP := am (pickN_range (13 * round + i) f.devs.length)
 have HB := am ((b_al w (.cells #[.int .i64 n, .int .i64 pi, .int .i64 e, .int .i64 g, .int .i64 first, pv] 24)).alloc (by simp) (.cells #[.int .i64 f.kind, .int .i64 f.at_, .int .i64 f.frm, .int .i64 f.to_, .slice AA f.acts.length ma, .slice AD f.devs.length md] 27))
 have hz : (w.alloc (.cells #[.int .i64 n, .int .i64 pi, .int .i64 e, .int .i64 g, .int .i64 first, pv] 24)).heap.size = w.heap.size + 1 := by simp
 have l1 := blk_alloc (blk_new w (.cells #[.int .i64 n, .int .i64 pi, .int .i64 e, .int .i64 g, .int .i64 first, pv] 24)) (.cells #[.int .i64 f.kind, .int .i64 f.at_, .int .i64 f.frm, .int .i64 f.to_, .slice AA f.acts.length ma, .slice AD f.devs.length md] 27)
 have l2 := blk_new (w.alloc (.cells #[.int .i64 n, .int .i64 pi, .int .i64 e, .int .i64 g, .int .i64 first, pv] 24)) (.cells #[.int .i64 f.kind, .int .i64 f.at_, .int .i64 f.frm, .int .i64 f.to_, .slice AA f.acts.length ma, .slice AD f.devs.length md] 27)
 rw [hz] at l2
 have L1 := am l1
 have L2 := am l2
 have HF := am (hf.below HB.out)
 clear hz l1 l2 hf
 have WP : True → wrap64 (wrap64 (13 * round) + i) = 13 * round + i := fun _ => by rw [w64_q (13 * round) (by omega) (by omega), w64_q _ (by omega) (by omega)]
 unfold Ft.dev Ft.wrong Ft.idle
 by_cases k1 : f.kind = 1
 ·have e1 : (f.kind == 1) = true := beq_iff_eq.2 k1
  unfold Ft.locV at KO
  simp only [if_pos k1] at KO
  rw [e1, Bool.true_and]
  have LY := ta_yes
  have NONE : ∀ (dv : Int), (f.frm ≤ round → f.to_ ≤ round ∨ ¬ owner = f.at_) → True := fun _ _ => trivial
  clear NONE
  rcases Bool.eq_false_or_eq_true (owner == f.at_) with a | a
  case inr =>
   rw [a, if_neg (by simp)]
   clear HP hd hr0 hr1 hi0 hi1 h0 h1 k1 e1 KP KW WP
   go_enter Tryz.func99, Tryz.ntmps99
   go_wp2_with (first
    | (go_at_call 121; refine (KO _).mono ?_; rintro e W1 ⟨rfl, hb⟩; have n1 := am (HB.out.trans (hb.mono HB.out.size)); have n2 := am (blk_below L1.out hb); have n3 := am (blk_below L2.out hb); have n4 := am (HF.out.below (show Below _ _ W1 from hb)); clear HB L1 L2 HF hb; have HB := n1; have L1 := n2; have L2 := n3; have HF := n4; clear n1 n2 n3 n4)
    | (go_at_call 122; refine (K1 _).mono ?_; rintro e W2 ⟨rfl, hb⟩; have n1 := am ((below_alloc HB.out _).trans (hb.mono (below_alloc HB.out _).size)); have n2 := am (blk_below (blk_alloc L1.out _) hb); have n3 := am (blk_below (blk_alloc L2.out _) hb); have n4 := am ((HF.out.below (b_al _ _)).below (show Below _ _ W2 from hb)); clear HB L1 L2 HF hb; have HB := n1; have L1 := n2; have L2 := n3; have HF := n4; clear n1 n2 n3 n4; have y2 := (blk_cell L2.out 2).trans rfl; have y3 := (blk_cell L2.out 3).trans rfl; have y5 := (blk_cell L2.out 5).trans rfl))
   go_ret
   exact ⟨rfl, HB.out⟩
  case inl =>
   rw [a]
   rcases Bool.eq_false_or_eq_true (decide (round < f.frm)) with b | b
   case inl =>
    rw [b, if_neg (by simp)]
    clear HP hd hr0 hr1 hi0 hi1 h0 h1 k1 e1 KP KW WP
    go_enter Tryz.func99, Tryz.ntmps99
    go_wp2_with (first
     | (go_at_call 121; refine (KO _).mono ?_; rintro e W1 ⟨rfl, hb⟩; have n1 := am (HB.out.trans (hb.mono HB.out.size)); have n2 := am (blk_below L1.out hb); have n3 := am (blk_below L2.out hb); have n4 := am (HF.out.below (show Below _ _ W1 from hb)); clear HB L1 L2 HF hb; have HB := n1; have L1 := n2; have L2 := n3; have HF := n4; clear n1 n2 n3 n4)
     | (go_at_call 122; refine (K1 _).mono ?_; rintro e W2 ⟨rfl, hb⟩; have n1 := am ((below_alloc HB.out _).trans (hb.mono (below_alloc HB.out _).size)); have n2 := am (blk_below (blk_alloc L1.out _) hb); have n3 := am (blk_below (blk_alloc L2.out _) hb); have n4 := am ((HF.out.below (b_al _ _)).below (show Below _ _ W2 from hb)); clear HB L1 L2 HF hb; have HB := n1; have L1 := n2; have L2 := n3; have HF := n4; clear n1 n2 n3 n4; have y2 := (blk_cell L2.out 2).trans rfl; have y3 := (blk_cell L2.out 3).trans rfl; have y5 := (blk_cell L2.out 5).trans rfl))
    go_ret
    exact ⟨rfl, HB.out⟩
   case inr =>
    rcases Bool.eq_false_or_eq_true (decide (f.to_ ≤ round)) with d | d
    case inl =>
     rw [b, d, if_neg (by simp)]
     clear HP hd hr0 hr1 hi0 hi1 h0 h1 k1 e1 KP KW WP
     go_enter Tryz.func99, Tryz.ntmps99
     go_wp2_with (first
      | (go_at_call 121; refine (KO _).mono ?_; rintro e W1 ⟨rfl, hb⟩; have n1 := am (HB.out.trans (hb.mono HB.out.size)); have n2 := am (blk_below L1.out hb); have n3 := am (blk_below L2.out hb); have n4 := am (HF.out.below (show Below _ _ W1 from hb)); clear HB L1 L2 HF hb; have HB := n1; have L1 := n2; have L2 := n3; have HF := n4; clear n1 n2 n3 n4)
      | (go_at_call 122; refine (K1 _).mono ?_; rintro e W2 ⟨rfl, hb⟩; have n1 := am ((below_alloc HB.out _).trans (hb.mono (below_alloc HB.out _).size)); have n2 := am (blk_below (blk_alloc L1.out _) hb); have n3 := am (blk_below (blk_alloc L2.out _) hb); have n4 := am ((HF.out.below (b_al _ _)).below (show Below _ _ W2 from hb)); clear HB L1 L2 HF hb; have HB := n1; have L1 := n2; have L2 := n3; have HF := n4; clear n1 n2 n3 n4; have y2 := (blk_cell L2.out 2).trans rfl; have y3 := (blk_cell L2.out 3).trans rfl; have y5 := (blk_cell L2.out 5).trans rfl))
     go_ret
     exact ⟨rfl, HB.out⟩
    case inr =>
     rw [b, d, if_pos ⟨rfl, rfl⟩]
     have W1_ := am (w64_q (3 * (2 * pi)) (by omega) (by omega))
     have W2_ := am (w64_q (-(3 * (2 * pi))) (by omega) (by omega))
     have hpp := HP.out
     generalize hk : pickN (13 * round + i) f.devs.length = k_ at *
     rcases hpp with ⟨p0, p1⟩ | ⟨p0, p1⟩
     ·rw [if_pos p0]
      have q0 : decide (k_ < 0) = true := decide_eq_true p0
      clear HP hd hr0 hr1 hi0 hi1 h0 h1 k1 e1 KW p0 p1 hk
      go_enter Tryz.func99, Tryz.ntmps99
      go_wp2_with (first
       | (go_at_call 121; refine (KO _).mono ?_; rintro e W1 ⟨rfl, hb⟩; have n1 := am (HB.out.trans (hb.mono HB.out.size)); have n2 := am (blk_below L1.out hb); have n3 := am (blk_below L2.out hb); have n4 := am (HF.out.below (show Below _ _ W1 from hb)); clear HB L1 L2 HF hb; have HB := n1; have L1 := n2; have L2 := n3; have HF := n4; clear n1 n2 n3 n4)
       | (go_at_call 122; refine (K1 _).mono ?_; rintro e W2 ⟨rfl, hb⟩; have n1 := am ((below_alloc HB.out _).trans (hb.mono (below_alloc HB.out _).size)); have n2 := am (blk_below (blk_alloc L1.out _) hb); have n3 := am (blk_below (blk_alloc L2.out _) hb); have n4 := am ((HF.out.below (b_al _ _)).below (show Below _ _ W2 from hb)); clear HB L1 L2 HF hb; have HB := n1; have L1 := n2; have L2 := n3; have HF := n4; clear n1 n2 n3 n4; have y2 := (blk_cell L2.out 2).trans rfl; have y3 := (blk_cell L2.out 3).trans rfl; have y5 := (blk_cell L2.out 5).trans rfl)
       | (go_at_call 123; (try rw [i64_w]); (try rw [i64_w]); (try rw [WP trivial]); refine (KP _).mono ?_; rintro e W3 ⟨rfl, hb⟩; have n1 := am (HB.out.trans (hb.mono HB.out.size)); have n2 := am (blk_below L1.out hb); have n3 := am (blk_below L2.out hb); have n4 := am (HF.out.below (show Below _ _ W3 from hb)); clear HB L1 L2 HF hb y2 y3 y5; have HB := n1; have L1 := n2; have L2 := n3; have HF := n4; clear n1 n2 n3 n4; have y5 := (blk_cell L2.out 5).trans rfl))
      go_ret
      exact ⟨rfl, HB.out⟩
     ·rw [if_neg (by omega)]
      have q0 : decide (0 ≤ k_) = true := decide_eq_true p0
      have q1 : decide (k_ < (f.devs.length : Int)) = true := decide_eq_true p1
      have q2 : decide (k_ < 0) = false := decide_eq_false (by omega)
      have q3 := eq_true p0
      have q4 := eq_true p1
      clear HP hd hr0 hr1 hi0 hi1 h0 h1 k1 e1 p0 p1 hk
      go_enter Tryz.func99, Tryz.ntmps99
      go_wp2_with (first
       | (go_at_call 121; refine (KO _).mono ?_; rintro e W1 ⟨rfl, hb⟩; have n1 := am (HB.out.trans (hb.mono HB.out.size)); have n2 := am (blk_below L1.out hb); have n3 := am (blk_below L2.out hb); have n4 := am (HF.out.below (show Below _ _ W1 from hb)); clear HB L1 L2 HF hb; have HB := n1; have L1 := n2; have L2 := n3; have HF := n4; clear n1 n2 n3 n4)
       | (go_at_call 122; refine (K1 _).mono ?_; rintro e W2 ⟨rfl, hb⟩; have n1 := am ((below_alloc HB.out _).trans (hb.mono (below_alloc HB.out _).size)); have n2 := am (blk_below (blk_alloc L1.out _) hb); have n3 := am (blk_below (blk_alloc L2.out _) hb); have n4 := am ((HF.out.below (b_al _ _)).below (show Below _ _ W2 from hb)); clear HB L1 L2 HF hb; have HB := n1; have L1 := n2; have L2 := n3; have HF := n4; clear n1 n2 n3 n4; have y2 := (blk_cell L2.out 2).trans rfl; have y3 := (blk_cell L2.out 3).trans rfl; have y5 := (blk_cell L2.out 5).trans rfl)
       | (go_at_call 123; (try rw [i64_w]); (try rw [i64_w]); (try rw [WP trivial]); refine (KP _).mono ?_; rintro e W3 ⟨rfl, hb⟩; have n1 := am (HB.out.trans (hb.mono HB.out.size)); have n2 := am (blk_below L1.out hb); have n3 := am (blk_below L2.out hb); have n4 := am (HF.out.below (show Below _ _ W3 from hb)); clear HB L1 L2 HF hb y2 y3 y5; have HB := n1; have L1 := n2; have L2 := n3; have HF := n4; clear n1 n2 n3 n4; have y5 := (blk_cell L2.out 5).trans rfl)
       | ((with_reducible refine gate_ (.load 24 (.tmp 6)) rfl ?_); refine wpList_load_row rfl 24 (.tmp 6) rfl w.heap.size rfl _ _ _ _ L1.out Tryz.underlying24 rfl info_conf ?_)
       | (go_at_call 124; refine (KW _).mono ?_; rintro e W4 ⟨rfl, hb⟩; have n1 := am (HB.out.trans (hb.mono HB.out.size)); have n3 := am (blk_below L2.out hb); have n4 := am (HF.out.below (show Below _ _ W4 from hb)); clear HB L1 L2 HF hb y5; have HB := n1; have L2 := n3; have HF := n4; clear n1 n3 n4; have y5 := (blk_cell L2.out 5).trans rfl; obtain ⟨ad, rfl, hx⟩ := Kd.at_int HF.out.2.1 k_ (of_decide_eq_true q0) (of_decide_eq_true q1)))
      all_goals go_ret
      all_goals simp only [W1_.out, W2_.out, decide_eq_true_eq, decide_eq_false_iff_not] at *
      all_goals refine ⟨ret_i _ _ ?_, HB.out⟩
      all_goals clear LY KO K1 KP KW WP
      all_goals (simp only [Int.min_def, Int.max_def]; (repeat' split) <;> omega)
 ·have e1 : (f.kind == 1) = false := beq_eq_false_iff_ne.2 k1
  unfold Ft.locV at KO
  simp only [if_neg k1] at KO
  rw [e1, Bool.false_and, if_neg (by simp)]
  by_cases k2 : f.kind = 2
  ·simp only [if_pos k2] at KO
   have LY := ta_link
   clear HP hd hr0 hr1 hi0 hi1 h0 h1 k1 e1 KP KW WP k2 K1
   go_enter Tryz.func99, Tryz.ntmps99
   go_wp2_with (go_at_call 121; refine (KO _).mono ?_; rintro e W1 ⟨rfl, hb⟩; have n1 := am (HB.out.trans (hb.mono HB.out.size)); have n2 := am (blk_below L1.out hb); have n3 := am (blk_below L2.out hb); have n4 := am (HF.out.below (show Below _ _ W1 from hb)); clear HB L1 L2 HF hb; have HB := n1; have L1 := n2; have L2 := n3; have HF := n4; clear n1 n2 n3 n4)
   go_ret
   exact ⟨rfl, below_alloc HB.out _⟩
  ·simp only [if_neg k2] at KO
   have LY := ta_nowhere
   clear HP hd hr0 hr1 hi0 hi1 h0 h1 k1 e1 KP KW WP k2 K1
   go_enter Tryz.func99, Tryz.ntmps99
   go_wp2_with (go_at_call 121; refine (KO _).mono ?_; rintro e W1 ⟨rfl, hb⟩; have n1 := am (HB.out.trans (hb.mono HB.out.size)); have n2 := am (blk_below L1.out hb); have n3 := am (blk_below L2.out hb); have n4 := am (HF.out.below (show Below _ _ W1 from hb)); clear HB L1 L2 HF hb; have HB := n1; have L1 := n2; have L2 := n3; have HF := n4; clear n1 n2 n3 n4)
   go_ret
   exact ⟨rfl, below_alloc HB.out _⟩
end Go.Proofs.YtgcgglmmfgmaoaaGreat.PK
end
section
namespace Go.Proofs.YtgcgglmmfgmaoaaGreat.PK
open Go Go.RowKit Go.Proofs.YtgcgglmmfgmaoaaGreatW.PrintWords Go.Proofs.YtgcgglmmfgmaoaaGreatW.PrintLast Go.Proofs.YtgcgglmmfgmaoaaGreatW.PrintMore
attribute [local go_sem] max2_int min2_int max_two min_two
def toldL (c : Cf) (round slot : Int) (base : List UInt8) : S117 := match readL c base with
 | some f => if f.f0 = 3 then f else ⟨3, c.wire round, slot, ⟨1, 0⟩, if slot < c.n then List.replicate c.slots.toNat ⟨1, 0⟩ else []⟩
 | none => ⟨3, c.wire round, slot, ⟨1, 0⟩, if slot < c.n then List.replicate c.slots.toNat ⟨1, 0⟩ else []⟩
def doneL (c : Cf) (x : S83) (round slot : Int) (base : List UInt8) : List UInt8 :=
 if pickN x.f0 7 = 1 then base else if pickN x.f0 7 = 2 then base.take (pickN x.f1 (base.length + 1)).toNat else if pickN x.f0 7 = 3 then cleanL x.f2.data.toList
 else if pickN x.f0 7 = 4 then cleanL (if base.length = 0 then base else turnL base (pickN x.f1 base.length).toNat)
 else if pickN x.f0 7 = 5 then textL_ { toldL c round slot base with f3 := ⟨2, pickN x.f1 256⟩ }
 else if pickN x.f0 7 = 6 then textL_ { toldL c round slot base with f4 := List.replicate (toldL c round slot base).f4.length ⟨2, pickN x.f1 256⟩ } else []
def Ft.emit (f : Ft) (c : Cf) (round slot a b : Int) (base : List UInt8) : List UInt8 :=
 if f.hits c.n a b = false ∨ f.to_ ≤ round then base else if round < f.frm then [] else if pickN (17 * round + 5 * slot + b) f.acts.length < 0 then [] else doneL c (rd_T83 f.acts (pickN (17 * round + 5 * slot + b) f.acts.length)) round slot base
theorem Cf.OK.err {c : Cf} (h : c.OK) : c.err = 0 := by
 have h1 := h.n6; have h2 := h.n12; have h3 := h.e0; have h4 := h.e1; have h5 := h.g0; have h6 := h.g1; have h7 := h.f0; have h8 := h.f1; have h9 := h.p0; have h10 := h.p1; have h11 := h.l3
 have hp : (c.pairs.any fun x => !inB x (-1) (c.n - 1)) = false := by
  rw [List.any_eq_false]
  intro x hx
  have := h.pr x hx
  simp [inB]; omega
 unfold Cf.err
 rw [hp]
 simp [inB, h1, h2, h3, h4, h5, h6, h7, h8, h10]
 omega
theorem S_nil : S [] = (⟨#[]⟩ : ByteArray) := rfl
theorem fault_Emit (c : Cf) (hc : c.OK) (f : Ft) (AA : Option Addr) (ma : Nat) (AD : Option Addr) (md : Nat) (round slot a b : Int) (base : List UInt8) (hd : f.acts.length ≤ 1000) (hr0 : 0 ≤ round) (hr1 : round ≤ 1000000) (hs0 : 0 ≤ slot) (hs1 : slot ≤ 1000) (ha : 0 ≤ a) (ha2 : a < c.n) (hb : 0 ≤ b) (hb2 : b < c.n) (A : Option Addr) (m : Nat)
  (KD : ∀ x ∈ f.acts, ∀ W, c.C W A m → Calls Tryz.prog 149 #[c.v A m, .agg #[.int .i64 x.f0, .int .i64 x.f1, .string x.f2], .int .i64 round, .int .i64 slot, .string (S base)] W fun e w' => e = .returned (.string (S (doneL c x round slot base))) ∧ Below W.heap.size W w')
  (w : World) (hr : c.C w A m) (hf : f.C w AA ma AD md) :
  Calls Tryz.prog 138 #[c.v A m, f.v AA ma AD md, .int .i64 round, .int .i64 slot, .int .i64 a, .int .i64 b, .string (S base)] w fun e w' => e = .returned (.string (S (f.emit c round slot a b base))) ∧ Below w.heap.size w w' := by
 have KK := fun W hW => conf_Check c A m (by have := hc.l3; omega) W hW
 rw [hc.err] at KK
 have KH := fun W => fault_Hits c.n c.pi c.e c.g c.first (.slice A c.pairs.length m) hc.n6 hc.n12 f AA ma AD md a b ha ha2 hb hb2 W
 have KP := fun W => fault_pick_calls (17 * round + 5 * slot + b) f.acts.length (by omega) W
 have HP := am (pickN_range (17 * round + 5 * slot + b) f.acts.length)
 have hn := hc.n12
 have WP : True → wrap64 (wrap64 (wrap64 (17 * round) + wrap64 (5 * slot)) + b) = 17 * round + 5 * slot + b := fun _ => by rw [w64_q (17 * round) (by omega) (by omega), w64_q (5 * slot) (by omega) (by omega), w64_q (17 * round + 5 * slot) (by omega) (by omega), w64_q _ (by omega) (by omega)]
 have HB := am ((b_al w (.cells #[.int .i64 c.n, .int .i64 c.pi, .int .i64 c.e, .int .i64 c.g, .int .i64 c.first, .slice A c.pairs.length m] 24)).alloc (by simp) (.cells #[.int .i64 f.kind, .int .i64 f.at_, .int .i64 f.frm, .int .i64 f.to_, .slice AA f.acts.length ma, .slice AD f.devs.length md] 27))
 have hz : (w.alloc (.cells #[.int .i64 c.n, .int .i64 c.pi, .int .i64 c.e, .int .i64 c.g, .int .i64 c.first, .slice A c.pairs.length m] 24)).heap.size = w.heap.size + 1 := by simp
 have l1 := blk_alloc (blk_new w (.cells #[.int .i64 c.n, .int .i64 c.pi, .int .i64 c.e, .int .i64 c.g, .int .i64 c.first, .slice A c.pairs.length m] 24)) (.cells #[.int .i64 f.kind, .int .i64 f.at_, .int .i64 f.frm, .int .i64 f.to_, .slice AA f.acts.length ma, .slice AD f.devs.length md] 27)
 have l2 := blk_new (w.alloc (.cells #[.int .i64 c.n, .int .i64 c.pi, .int .i64 c.e, .int .i64 c.g, .int .i64 c.first, .slice A c.pairs.length m] 24)) (.cells #[.int .i64 f.kind, .int .i64 f.at_, .int .i64 f.frm, .int .i64 f.to_, .slice AA f.acts.length ma, .slice AD f.devs.length md] 27)
 rw [hz] at l2
 have L1 := am l1
 have L2 := am l2
 have HF := am (hf.below HB.out)
 have HC := am (hr.below HB.out)
 clear hz l1 l2 hf hr hn
 clear hd hr0 hr1 hs0 hs1 ha ha2 hb hb2 hc
 unfold Ft.emit
 rcases Bool.eq_false_or_eq_true (f.hits c.n a b) with t1 | t1
 case inr =>
  rw [t1] at KH
  rw [if_pos (.inl t1)]
  clear t1 KP HP WP KD
  go_enter Tryz.func138, Tryz.ntmps138
  go_wp2_with (first
   | (go_at_call 36; refine (KK _ HC.out).mono ?_; rintro e W1 ⟨rfl, hb⟩; have n1 := am (HB.out.trans (hb.mono HB.out.size)); have n2 := am (blk_below L1.out hb); have n3 := am (blk_below L2.out hb); have n4 := am (HF.out.below (show Below _ _ W1 from hb)); have n5 := am (HC.out.below (show Below _ _ W1 from hb)); clear HB L1 L2 HF HC hb; (try clear y2 y3 y4); have HB := n1; have L1 := n2; have L2 := n3; have HF := n4; have HC := n5; clear n1 n2 n3 n4 n5; have y2 := (blk_cell L2.out 2).trans rfl; have y3 := (blk_cell L2.out 3).trans rfl; have y4 := (blk_cell L2.out 4).trans rfl)
   | ((with_reducible refine gate_ (.load 24 (.tmp 7)) rfl ?_); refine wpList_load_row rfl 24 (.tmp 7) rfl (w.heap.size) rfl _ _ _ _ L1.out Tryz.underlying24 rfl info_conf ?_)
   | ((with_reducible refine gate_ (.load 27 (.tmp 8)) rfl ?_); refine wpList_load_row rfl 27 (.tmp 8) rfl (w.heap.size + 1) rfl _ _ _ _ L2.out Tryz.underlying27 rfl info_fault ?_)
   | (go_at_call 148; refine (KH _).mono ?_; rintro e W2 ⟨rfl, hb⟩; have n1 := am (HB.out.trans (hb.mono HB.out.size)); have n2 := am (blk_below L1.out hb); have n3 := am (blk_below L2.out hb); have n4 := am (HF.out.below (show Below _ _ W2 from hb)); have n5 := am (HC.out.below (show Below _ _ W2 from hb)); clear HB L1 L2 HF HC hb; (try clear y2 y3 y4); have HB := n1; have L1 := n2; have L2 := n3; have HF := n4; have HC := n5; clear n1 n2 n3 n4 n5; have y2 := (blk_cell L2.out 2).trans rfl; have y3 := (blk_cell L2.out 3).trans rfl; have y4 := (blk_cell L2.out 4).trans rfl))
  go_ret
  exact ⟨rfl, HB.out⟩
 case inl =>
  rw [t1] at KH
  rcases Bool.eq_false_or_eq_true (decide (f.to_ ≤ round)) with t2 | t2
  case inl =>
   rw [if_pos (.inr (of_decide_eq_true t2))]
   clear t1 KP HP WP KD
   go_enter Tryz.func138, Tryz.ntmps138
   go_wp2_with (first
    | (go_at_call 36; refine (KK _ HC.out).mono ?_; rintro e W1 ⟨rfl, hb⟩; have n1 := am (HB.out.trans (hb.mono HB.out.size)); have n2 := am (blk_below L1.out hb); have n3 := am (blk_below L2.out hb); have n4 := am (HF.out.below (show Below _ _ W1 from hb)); have n5 := am (HC.out.below (show Below _ _ W1 from hb)); clear HB L1 L2 HF HC hb; (try clear y2 y3 y4); have HB := n1; have L1 := n2; have L2 := n3; have HF := n4; have HC := n5; clear n1 n2 n3 n4 n5; have y2 := (blk_cell L2.out 2).trans rfl; have y3 := (blk_cell L2.out 3).trans rfl; have y4 := (blk_cell L2.out 4).trans rfl)
    | ((with_reducible refine gate_ (.load 24 (.tmp 7)) rfl ?_); refine wpList_load_row rfl 24 (.tmp 7) rfl (w.heap.size) rfl _ _ _ _ L1.out Tryz.underlying24 rfl info_conf ?_)
    | ((with_reducible refine gate_ (.load 27 (.tmp 8)) rfl ?_); refine wpList_load_row rfl 27 (.tmp 8) rfl (w.heap.size + 1) rfl _ _ _ _ L2.out Tryz.underlying27 rfl info_fault ?_)
    | (go_at_call 148; refine (KH _).mono ?_; rintro e W2 ⟨rfl, hb⟩; have n1 := am (HB.out.trans (hb.mono HB.out.size)); have n2 := am (blk_below L1.out hb); have n3 := am (blk_below L2.out hb); have n4 := am (HF.out.below (show Below _ _ W2 from hb)); have n5 := am (HC.out.below (show Below _ _ W2 from hb)); clear HB L1 L2 HF HC hb; (try clear y2 y3 y4); have HB := n1; have L1 := n2; have L2 := n3; have HF := n4; have HC := n5; clear n1 n2 n3 n4 n5; have y2 := (blk_cell L2.out 2).trans rfl; have y3 := (blk_cell L2.out 3).trans rfl; have y4 := (blk_cell L2.out 4).trans rfl))
   go_ret
   exact ⟨rfl, HB.out⟩
  case inr =>
   rw [if_neg (fun h => h.elim (fun h => by rw [t1] at h; cases h) (fun h => of_decide_eq_false t2 h))]
   rcases Bool.eq_false_or_eq_true (decide (round < f.frm)) with t3 | t3
   case inl =>
    rw [if_pos (of_decide_eq_true t3), S_nil]
    clear t1 KP HP WP KD
    go_enter Tryz.func138, Tryz.ntmps138
    go_wp2_with (first
     | (go_at_call 36; refine (KK _ HC.out).mono ?_; rintro e W1 ⟨rfl, hb⟩; have n1 := am (HB.out.trans (hb.mono HB.out.size)); have n2 := am (blk_below L1.out hb); have n3 := am (blk_below L2.out hb); have n4 := am (HF.out.below (show Below _ _ W1 from hb)); have n5 := am (HC.out.below (show Below _ _ W1 from hb)); clear HB L1 L2 HF HC hb; (try clear y2 y3 y4); have HB := n1; have L1 := n2; have L2 := n3; have HF := n4; have HC := n5; clear n1 n2 n3 n4 n5; have y2 := (blk_cell L2.out 2).trans rfl; have y3 := (blk_cell L2.out 3).trans rfl; have y4 := (blk_cell L2.out 4).trans rfl)
     | ((with_reducible refine gate_ (.load 24 (.tmp 7)) rfl ?_); refine wpList_load_row rfl 24 (.tmp 7) rfl (w.heap.size) rfl _ _ _ _ L1.out Tryz.underlying24 rfl info_conf ?_)
     | ((with_reducible refine gate_ (.load 27 (.tmp 8)) rfl ?_); refine wpList_load_row rfl 27 (.tmp 8) rfl (w.heap.size + 1) rfl _ _ _ _ L2.out Tryz.underlying27 rfl info_fault ?_)
     | (go_at_call 148; refine (KH _).mono ?_; rintro e W2 ⟨rfl, hb⟩; have n1 := am (HB.out.trans (hb.mono HB.out.size)); have n2 := am (blk_below L1.out hb); have n3 := am (blk_below L2.out hb); have n4 := am (HF.out.below (show Below _ _ W2 from hb)); have n5 := am (HC.out.below (show Below _ _ W2 from hb)); clear HB L1 L2 HF HC hb; (try clear y2 y3 y4); have HB := n1; have L1 := n2; have L2 := n3; have HF := n4; have HC := n5; clear n1 n2 n3 n4 n5; have y2 := (blk_cell L2.out 2).trans rfl; have y3 := (blk_cell L2.out 3).trans rfl; have y4 := (blk_cell L2.out 4).trans rfl))
    go_ret
    exact ⟨rfl, HB.out⟩
   case inr =>
    rw [if_neg (of_decide_eq_false t3)]
    have hpp := HP.out
    generalize hk : pickN (17 * round + 5 * slot + b) f.acts.length = k_ at *
    rcases hpp with ⟨p0, p1⟩ | ⟨p0, p1⟩
    ·rw [if_pos p0, S_nil]
     have q0 : decide (k_ < 0) = true := decide_eq_true p0
     clear t1 HP KD p0 p1 hk
     go_enter Tryz.func138, Tryz.ntmps138
     go_wp2_with (first
      | (go_at_call 36; refine (KK _ HC.out).mono ?_; rintro e W1 ⟨rfl, hb⟩; have n1 := am (HB.out.trans (hb.mono HB.out.size)); have n2 := am (blk_below L1.out hb); have n3 := am (blk_below L2.out hb); have n4 := am (HF.out.below (show Below _ _ W1 from hb)); have n5 := am (HC.out.below (show Below _ _ W1 from hb)); clear HB L1 L2 HF HC hb; (try clear y2 y3 y4); have HB := n1; have L1 := n2; have L2 := n3; have HF := n4; have HC := n5; clear n1 n2 n3 n4 n5; have y2 := (blk_cell L2.out 2).trans rfl; have y3 := (blk_cell L2.out 3).trans rfl; have y4 := (blk_cell L2.out 4).trans rfl)
      | ((with_reducible refine gate_ (.load 24 (.tmp 7)) rfl ?_); refine wpList_load_row rfl 24 (.tmp 7) rfl (w.heap.size) rfl _ _ _ _ L1.out Tryz.underlying24 rfl info_conf ?_)
      | ((with_reducible refine gate_ (.load 27 (.tmp 8)) rfl ?_); refine wpList_load_row rfl 27 (.tmp 8) rfl (w.heap.size + 1) rfl _ _ _ _ L2.out Tryz.underlying27 rfl info_fault ?_)
      | (go_at_call 148; refine (KH _).mono ?_; rintro e W2 ⟨rfl, hb⟩; have n1 := am (HB.out.trans (hb.mono HB.out.size)); have n2 := am (blk_below L1.out hb); have n3 := am (blk_below L2.out hb); have n4 := am (HF.out.below (show Below _ _ W2 from hb)); have n5 := am (HC.out.below (show Below _ _ W2 from hb)); clear HB L1 L2 HF HC hb; (try clear y2 y3 y4); have HB := n1; have L1 := n2; have L2 := n3; have HF := n4; have HC := n5; clear n1 n2 n3 n4 n5; have y2 := (blk_cell L2.out 2).trans rfl; have y3 := (blk_cell L2.out 3).trans rfl; have y4 := (blk_cell L2.out 4).trans rfl)
      | (go_at_call 123; (repeat rw [i64_w]); (try rw [WP trivial]); refine (KP _).mono ?_; rintro e W3 ⟨rfl, hb⟩; have n1 := am (HB.out.trans (hb.mono HB.out.size)); have n2 := am (blk_below L1.out hb); have n3 := am (blk_below L2.out hb); have n4 := am (HF.out.below (show Below _ _ W3 from hb)); have n5 := am (HC.out.below (show Below _ _ W3 from hb)); clear HB L1 L2 HF HC hb; (try clear y2 y3 y4); have HB := n1; have L1 := n2; have L2 := n3; have HF := n4; have HC := n5; clear n1 n2 n3 n4 n5; have y2 := (blk_cell L2.out 2).trans rfl; have y3 := (blk_cell L2.out 3).trans rfl; have y4 := (blk_cell L2.out 4).trans rfl))
     go_ret
     exact ⟨rfl, HB.out⟩
    ·rw [if_neg (by omega)]
     have q0 : decide (0 ≤ k_) = true := decide_eq_true p0
     have q1 : decide (k_ < (f.acts.length : Int)) = true := decide_eq_true p1
     have q2 : decide (k_ < 0) = false := decide_eq_false (by omega)
     have q3 := eq_true p0
     have q4 := eq_true p1
     have hm : rd_T83 f.acts k_ ∈ f.acts := by
      unfold rd_T83
      rw [List.getD_eq_getElem?_getD, List.getElem?_eq_getElem (by omega)]
      exact List.getElem_mem _
     have KD := KD _ hm
     clear t1 HP p0 p1 hk hm
     go_enter Tryz.func138, Tryz.ntmps138
     go_wp2_with (first
      | (go_at_call 36; refine (KK _ HC.out).mono ?_; rintro e W1 ⟨rfl, hb⟩; have n1 := am (HB.out.trans (hb.mono HB.out.size)); have n2 := am (blk_below L1.out hb); have n3 := am (blk_below L2.out hb); have n4 := am (HF.out.below (show Below _ _ W1 from hb)); have n5 := am (HC.out.below (show Below _ _ W1 from hb)); clear HB L1 L2 HF HC hb; (try clear y2 y3 y4); have HB := n1; have L1 := n2; have L2 := n3; have HF := n4; have HC := n5; clear n1 n2 n3 n4 n5; have y2 := (blk_cell L2.out 2).trans rfl; have y3 := (blk_cell L2.out 3).trans rfl; have y4 := (blk_cell L2.out 4).trans rfl)
      | ((with_reducible refine gate_ (.load 24 (.tmp 7)) rfl ?_); refine wpList_load_row rfl 24 (.tmp 7) rfl (w.heap.size) rfl _ _ _ _ L1.out Tryz.underlying24 rfl info_conf ?_)
      | ((with_reducible refine gate_ (.load 27 (.tmp 8)) rfl ?_); refine wpList_load_row rfl 27 (.tmp 8) rfl (w.heap.size + 1) rfl _ _ _ _ L2.out Tryz.underlying27 rfl info_fault ?_)
      | (go_at_call 148; refine (KH _).mono ?_; rintro e W2 ⟨rfl, hb⟩; have n1 := am (HB.out.trans (hb.mono HB.out.size)); have n2 := am (blk_below L1.out hb); have n3 := am (blk_below L2.out hb); have n4 := am (HF.out.below (show Below _ _ W2 from hb)); have n5 := am (HC.out.below (show Below _ _ W2 from hb)); clear HB L1 L2 HF HC hb; (try clear y2 y3 y4); have HB := n1; have L1 := n2; have L2 := n3; have HF := n4; have HC := n5; clear n1 n2 n3 n4 n5; have y2 := (blk_cell L2.out 2).trans rfl; have y3 := (blk_cell L2.out 3).trans rfl; have y4 := (blk_cell L2.out 4).trans rfl)
      | (go_at_call 123; (repeat rw [i64_w]); (try rw [WP trivial]); refine (KP _).mono ?_; rintro e W3 ⟨rfl, hb⟩; have n1 := am (HB.out.trans (hb.mono HB.out.size)); have n2 := am (blk_below L1.out hb); have n3 := am (blk_below L2.out hb); have n4 := am (HF.out.below (show Below _ _ W3 from hb)); have n5 := am (HC.out.below (show Below _ _ W3 from hb)); clear HB L1 L2 HF HC hb; (try clear y2 y3 y4); have HB := n1; have L1 := n2; have L2 := n3; have HF := n4; have HC := n5; clear n1 n2 n3 n4 n5; have y2 := (blk_cell L2.out 2).trans rfl; have y3 := (blk_cell L2.out 3).trans rfl; have y4 := (blk_cell L2.out 4).trans rfl; obtain ⟨ad, rfl, hx0, hx1, hx2⟩ := at_T83 HF.out.1.1 k_ (of_decide_eq_true q0) (of_decide_eq_true q1))
      | ((with_reducible refine gate_ (.load 24 (.tmp 7)) rfl ?_); refine wpList_load_row rfl 24 (.tmp 7) rfl (w.heap.size) rfl _ _ _ _ L1.out Tryz.underlying24 rfl info_conf ?_)
      | (go_at_call 149; refine (KD _ HC.out).mono ?_; rintro e W4 ⟨rfl, hb⟩; replace HB := am (HB.out.trans (hb.mono HB.out.size)); clear hb))
     have HX0 := am hx0
     have HX1 := am hx1
     have HX2 := am hx2
     clear hx0 hx1 hx2 y2 y3 y4
     have LS : Aside0 (∀ w', Below W3.heap.size W3 w' → (fun w' => w'.cell? ⟨w.heap.size, 0, none⟩ = some (.int .i64 c.n) ∧ w'.cell? ⟨w.heap.size, 1, none⟩ = some (.int .i64 c.pi) ∧ w'.cell? ⟨w.heap.size, 2, none⟩ = some (.int .i64 c.e) ∧ w'.cell? ⟨w.heap.size, 3, none⟩ = some (.int .i64 c.g) ∧ w'.cell? ⟨w.heap.size, 4, none⟩ = some (.int .i64 c.first) ∧ w'.cell? ⟨w.heap.size, 5, none⟩ = some (.slice A c.pairs.length m) ∧ w'.cell? ⟨w.heap.size + 1, 4, none⟩ = some (.slice (some ad) f.acts.length ma) ∧ w'.cell? (ad.add (k_.toNat * 3)) = some (.int .i64 (rd_T83 f.acts k_).f0) ∧ w'.cell? ⟨(ad.add (k_.toNat * 3)).block, (ad.add (k_.toNat * 3)).off + 1, none⟩ = some (.int .i64 (rd_T83 f.acts k_).f1) ∧ w'.cell? ⟨(ad.add (k_.toNat * 3)).block, (ad.add (k_.toNat * 3)).off + 2, none⟩ = some (.string (rd_T83 f.acts k_).f2)) w') := ⟨fun w' hb_ => ⟨(blk_cell (blk_below L1.out hb_) 0).trans rfl, (blk_cell (blk_below L1.out hb_) 1).trans rfl, (blk_cell (blk_below L1.out hb_) 2).trans rfl, (blk_cell (blk_below L1.out hb_) 3).trans rfl, (blk_cell (blk_below L1.out hb_) 4).trans rfl, (blk_cell (blk_below L1.out hb_) 5).trans rfl, (blk_cell (blk_below L2.out hb_) 4).trans rfl, (hb_.cell (World.block_lt_of_cell? _ _ HX0.out)).trans HX0.out, (hb_.cell (World.block_lt_of_cell? _ _ HX1.out)).trans HX1.out, (hb_.cell (World.block_lt_of_cell? _ _ HX2.out)).trans HX2.out⟩⟩
     have HN := am (Below.refl W3.heap.size W3)
     have hS0 := LS.out W3.drew (below_drew (Below.refl _ _))
     refine start_ (n := 11) (S := fun w' => w'.cell? ⟨w.heap.size, 0, none⟩ = some (.int .i64 c.n) ∧ w'.cell? ⟨w.heap.size, 1, none⟩ = some (.int .i64 c.pi) ∧ w'.cell? ⟨w.heap.size, 2, none⟩ = some (.int .i64 c.e) ∧ w'.cell? ⟨w.heap.size, 3, none⟩ = some (.int .i64 c.g) ∧ w'.cell? ⟨w.heap.size, 4, none⟩ = some (.int .i64 c.first) ∧ w'.cell? ⟨w.heap.size, 5, none⟩ = some (.slice A c.pairs.length m) ∧ w'.cell? ⟨w.heap.size + 1, 4, none⟩ = some (.slice (some ad) f.acts.length ma) ∧ w'.cell? (ad.add (k_.toNat * 3)) = some (.int .i64 (rd_T83 f.acts k_).f0) ∧ w'.cell? ⟨(ad.add (k_.toNat * 3)).block, (ad.add (k_.toNat * 3)).off + 1, none⟩ = some (.int .i64 (rd_T83 f.acts k_).f1) ∧ w'.cell? ⟨(ad.add (k_.toNat * 3)).block, (ad.add (k_.toNat * 3)).off + 2, none⟩ = some (.string (rd_T83 f.acts k_).f2)) (ds := []) #[false, false, false, false, false, false, false, false, false, false, false] (by kernel_rfl) rfl rfl ?st0 (fun hHeld => ?_)
     case st0 => exact hS0
     refine plan_ [.t 0 52, .p 1 53, .t 2 54, .p 3 55, .p 4 56, .t 5 57, .p 6 58, .p 7 59, .p 8 60] ?_
     repeat (first | refine kP ?_ | refine kT hHeld ?_ | refine kG ?_)
     refine planE ?_
     refine jO 9 (some 61) (fun K hK => ?_)
     refine kC Tryz.func149 #[c.v A m, .agg #[.int .i64 (rd_T83 f.acts k_).f0, .int .i64 (rd_T83 f.acts k_).f1, .string (rd_T83 f.acts k_).f2], .int .i64 round, .int .i64 slot, .string (S base)] ?_
     refine (KD _ (HC.out.below (show Below _ _ W3.drew from below_drew (Below.refl _ _)))).mono ?_
     rintro e W4 ⟨rfl, hb⟩
     replace HN := am ((below_drew HN.out).trans (hb.mono (below_drew HN.out).size))
     clear hb
     refine ⟨_, rfl, ?_⟩
     refine hK.out _ _ (LS.out _ HN.out) (fun hHeld => ?_)
     clear hK K
     refine kN ?_
     refine plan_ [.p 10 14] ?_
     repeat (first | refine kP ?_ | refine kT hHeld ?_ | refine kG ?_)
     refine planE ?_
     refine done_ (by kernel_rfl) ?_
     go_wp2
     go_ret
     exact ⟨rfl, HB.out.trans (HN.out.mono HB.out.size)⟩
end Go.Proofs.YtgcgglmmfgmaoaaGreat.PK
end
section
namespace Go.Proofs.YtgcgglmmfgmaoaaGreat.PK
open Go Go.RowKit Go.Proofs.YtgcgglmmfgmaoaaGreatW.PrintWords Go.Proofs.YtgcgglmmfgmaoaaGreatW.PrintLast Go.Proofs.YtgcgglmmfgmaoaaGreatW.PrintMore
attribute [local go_sem] max2_int min2_int max_two min_two
structure Sd where
 d : List UInt8
 s : List UInt8
 o : List UInt8
 far : Int
def zSd : Sd := ⟨[], [], [], 0⟩
def Sd.cs (x : Sd) : List Value := [.string (S x.d), .string (S x.s), .string (S x.o), .int .i64 x.far]
def sdsV : List Sd → List Value
 | [] => []
 | x :: r => x.cs ++ sdsV r
theorem sdsV_len : ∀ l : List Sd, (sdsV l).length = 4 * l.length
 | [] => rfl
 | x :: r => by rw [sdsV, List.length_append, sdsV_len r, List.length_cons]; simp [Sd.cs]; omega
theorem sdsV_at : ∀ (l : List Sd) (i j : Nat), i < l.length → j < 4 → (sdsV l)[4 * i + j]? = (l.getD i zSd).cs[j]?
 | [], i, j, h, _ => by simp at h
 | x :: r, 0, j, _, hj => by
  rw [sdsV, List.getElem?_append_left (by simp [Sd.cs]; omega)]; simp
 | x :: r, i + 1, j, h, hj => by
  rw [sdsV, List.getElem?_append_right (by simp [Sd.cs]; omega)]
  have := sdsV_at r i j (by simpa using h) hj
  rw [show 4 * (i + 1) + j - x.cs.length = 4 * i + j by simp [Sd.cs]; omega, this]; simp
structure WvP where
 c : Cf
 A : Option Addr
 m : Nat
 f : Ft
 AA : Option Addr
 ma : Nat
 AD : Option Addr
 md : Nat
 round : Int
 slot : Int
 dir : Int
 states : List Int
 As : Option Addr
 ms : Nat
 devs : List Int
 Av : Option Addr
 mv : Nat
 N : Nat
 g : Nat
 sb : Nat
 db : Nat
def WvP.cells (p : WvP) : List Value := [.int .i64 p.c.n, .int .i64 p.c.pi, .int .i64 p.c.e, .int .i64 p.c.g, .int .i64 p.c.first, .slice p.A p.c.pairs.length p.m, .int .i64 p.f.kind, .int .i64 p.f.at_, .int .i64 p.f.frm, .int .i64 p.f.to_, .slice p.AA p.f.acts.length p.ma, .slice p.AD p.f.devs.length p.md, .int .i64 p.round, .int .i64 p.slot, .int .i64 p.dir, .slice p.As p.states.length p.ms, .slice p.Av p.devs.length p.mv, .slice (some ⟨p.sb, 0, none⟩) p.N p.N, .slice (some ⟨p.db, 0, none⟩) p.N p.N]
structure WvP.S0 (p : WvP) (w0 : World) : Prop where
 hc : p.c.C w0 p.A p.m
 hf : p.f.C w0 p.AA p.ma p.AD p.md
 hst : Kd.C (Kd.int .i64) w0 p.As p.states.length p.states ∧ p.states.length ≤ p.ms
 hdv : Kd.C (Kd.int .i64) w0 p.Av p.devs.length p.devs ∧ p.devs.length ≤ p.mv
 gg : w0.heap.size ≤ p.g
 gs : w0.heap.size ≤ p.sb
 gd : w0.heap.size ≤ p.db
structure WvP.H (p : WvP) (w0 W : World) (sides : List Sd) (dn : List Bool) : Prop where
 hw : W.heap[p.g]? = some (.cells p.cells.toArray 157 (0, 0))
 hs : W.heap[p.sb]? = some (.cells (sdsV sides).toArray 127 (0, 0))
 hd : W.heap[p.db]? = some (.cells (dn.map Value.bool).toArray 4 (0, 0))
 hB : Below w0.heap.size w0 W
 h0 : p.S0 w0
section
variable {p : WvP} {w0 W W' : World} {sides : List Sd} {dn : List Bool}
theorem WvP.H.hc (h : p.H w0 W sides dn) : p.c.C W p.A p.m := h.h0.hc.below h.hB
theorem WvP.H.hf (h : p.H w0 W sides dn) : p.f.C W p.AA p.ma p.AD p.md := h.h0.hf.below h.hB
theorem WvP.H.hst (h : p.H w0 W sides dn) : Kd.C (Kd.int .i64) W p.As p.states.length p.states := Kd.C_below h.h0.hst.1 h.hB
theorem WvP.H.hdv (h : p.H w0 W sides dn) : Kd.C (Kd.int .i64) W p.Av p.devs.length p.devs := Kd.C_below h.h0.hdv.1 h.hB
theorem WvP.H.below (h : p.H w0 W sides dn) (hb : Below W.heap.size W W') : p.H w0 W' sides dn :=
 ⟨blk_below h.hw hb, blk_below h.hs hb, blk_below h.hd hb, b_tr h.hB hb, h.h0⟩
end
structure WvP.OK (p : WvP) : Prop where
 hc : p.c.OK
 hN : p.c.n = p.N
 st : p.states.length = p.N
 dv : p.devs.length = p.N
 ac : p.f.acts.length ≤ 1000
 r0 : 0 ≤ p.round
 r1 : p.round ≤ 1000000
 s0 : 0 ≤ p.slot
 s1 : p.slot ≤ 1000
 dr : p.dir = 1 ∨ p.dir = -1
def WvP.KD (p : WvP) : Prop := ∀ x ∈ p.f.acts, ∀ base : List UInt8, base.length ≤ 900 → (doneL p.c x p.round p.slot base).length ≤ 900 ∧ ∀ W, p.c.C W p.A p.m → Calls Tryz.prog 149 #[p.c.v p.A p.m, .agg #[.int .i64 x.f0, .int .i64 x.f1, .string x.f2], .int .i64 p.round, .int .i64 p.slot, .string (S base)] W fun e w' => e = .returned (.string (S (doneL p.c x p.round p.slot base))) ∧ Below W.heap.size W w'
theorem cleanL_le (l : List UInt8) : (cleanL l).length ≤ l.length := by unfold cleanL; rw [List.length_take]; omega
theorem emit_len {p : WvP} (hk : p.KD) (a b : Int) (base : List UInt8) (h : base.length ≤ 900) : (p.f.emit p.c p.round p.slot a b base).length ≤ 900 := by
 unfold Ft.emit
 split
 ·exact h
 ·split
  ·simp
  ·split
   ·simp
   ·rename_i h1 h2 h3
    refine (hk _ ?_ base h).1
    rcases pickN_range (17 * p.round + 5 * p.slot + b) p.f.acts.length with ⟨q0, _⟩ | ⟨q0, q1⟩
    ·exact absurd q0 h3
    ·unfold rd_T83
     rw [List.getD_eq_getElem?_getD, List.getElem?_eq_getElem (by omega)]
     exact List.getElem_mem _
def WvP.from_ (p : WvP) (node back : Int) : Int := (node + -p.dir * back) % p.c.n
def WvP.come (p : WvP) (sides : List Sd) (dn : List Bool) (node back : Int) : List UInt8 :=
 if dn.getD (p.from_ node back).toNat false = false then [] else cleanL (p.f.emit p.c p.round p.slot (p.from_ node back) node (sides.getD (p.from_ node back).toNat zSd).o)
theorem from_range {p : WvP} (ok : p.OK) (node back : Int) : 0 ≤ p.from_ node back ∧ p.from_ node back < p.N := by
 have h6 := ok.hc.n6; have hN := ok.hN
 unfold WvP.from_
 have h1 := Int.emod_nonneg (node + -p.dir * back) (show p.c.n ≠ 0 by omega)
 have h2 := Int.emod_lt_of_pos (node + -p.dir * back) (show 0 < p.c.n by omega)
 omega
theorem side_cell {p : WvP} {w0 W : World} {sides : List Sd} {dn : List Bool} (h : p.H w0 W sides dn) (i j : Nat) (v : Value) (hi : i < sides.length) (hj : j < 4) (hv : (sides.getD i zSd).cs[j]? = some v) : W.cell? ⟨p.sb, i * 4 + j, none⟩ = some v := by
 have := blk_cell h.hs (i * 4 + j)
 rw [this]
 rw [List.getElem?_toArray, show i * 4 + j = 4 * i + j by omega, sdsV_at sides i j hi hj]
 exact hv
theorem done_cell {p : WvP} {w0 W : World} {sides : List Sd} {dn : List Bool} (h : p.H w0 W sides dn) (i : Nat) (hi : i < dn.length) : W.cell? ⟨p.db, i, none⟩ = some (.bool (dn.getD i false)) := by
 have := blk_cell h.hd i
 rw [this]
 rw [List.getElem?_toArray, List.getElem?_map, List.getD_eq_getElem?_getD, List.getElem?_eq_getElem hi]; rfl
theorem come_calls (p : WvP) (ok : p.OK) (hk : p.KD) (node back : Int) (hn0 : 0 ≤ node) (hn1 : node < p.N) (hb0 : 1 ≤ back) (hb1 : back ≤ 2) (sides : List Sd) (dn : List Bool) (hsl : sides.length = p.N) (hdl : dn.length = p.N) (hso : ∀ x ∈ sides, x.o.length ≤ 900) (w0 w : World) (hH : p.H w0 w sides dn) :
  Calls Tryz.prog 127 #[.pointer (some ⟨p.g, 0, none⟩), .int .i64 node, .int .i64 back] w fun e w' => e = .returned (.string (S (p.come sides dn node back))) ∧ Below w.heap.size w w' := by
 have h6 := ok.hc.n6; have h12 := ok.hc.n12; have hN := ok.hN
 have hfr := from_range ok node back
 have hbase : (sides.getD (p.from_ node back).toNat zSd).o.length ≤ 900 := by
  rw [List.getD_eq_getElem?_getD, List.getElem?_eq_getElem (by omega)]
  exact hso _ (List.getElem_mem _)
 have KE := fun W (h1 : p.c.C W p.A p.m) h2 => fault_Emit p.c ok.hc p.f p.AA p.ma p.AD p.md p.round p.slot (p.from_ node back) node (sides.getD (p.from_ node back).toNat zSd).o ok.ac ok.r0 ok.r1 ok.s0 ok.s1 hfr.1 (by omega) hn0 (by omega) p.A p.m (fun x hx => (hk x hx _ hbase).2) W h1 h2
 have KC := fun W => sym_Clean.calls (S (p.f.emit p.c p.round p.slot (p.from_ node back) node (sides.getD (p.from_ node back).toNat zSd).o)) _ W (sym_Clean_eq _ (Nat.le_trans (emit_len hk _ _ _ hbase) (by omega)))
 have hdb : -2 ≤ -p.dir * back ∧ -p.dir * back ≤ 2 := by rcases ok.dr with h | h <;> rw [h] <;> omega
 have KA := fun W => ring_At p.c.n node (-p.dir * back) (by omega) (by omega) (by omega) (by omega) (by omega) (by omega) W
 have WD : True → wrap64 (wrap64 (-p.dir) * back) = -p.dir * back := fun _ => by
  have h1 : wrap64 (-p.dir) = -p.dir := by rcases ok.dr with h | h <;> rw [h] <;> exact w64_q _ (by omega) (by omega)
  rw [h1, w64_q _ (by omega) (by omega)]
 have sd := fun (W : World) (h : p.H w0 W sides dn) => side_cell h (p.from_ node back).toNat 2 _ (by omega) (by omega) rfl
 have dd := fun (W : World) (h : p.H w0 W sides dn) => done_cell h (p.from_ node back).toNat (by omega)
 have e0 : (node + -p.dir * back) % p.c.n = p.from_ node back := rfl
 rw [e0] at KA
 unfold WvP.come
 have HH := am hH
 have q0 := eq_true hfr.1
 have q1 := eq_true hfr.2
 generalize p.from_ node back = k_ at *
 clear hH h6 h12 hN hfr hbase hdb hn0 hn1 hb0 hb1 hsl hdl hso e0
 generalize hbb : dn.getD k_.toNat false = b at *
 clear hbb
 generalize hRR : (if b = false then [] else cleanL (p.f.emit p.c p.round p.slot k_ node (sides.getD k_.toNat zSd).o)) = R_ at *
 have LS : Aside0 (∀ w', Below w.heap.size w w' → (fun w' => w'.cell? ⟨p.g, 0, none⟩ = some (.int .i64 p.c.n) ∧ w'.cell? ⟨p.g, 14, none⟩ = some (.int .i64 p.dir)) w') := ⟨fun w' hb_ => ⟨(blk_cell (blk_below HH.out.hw hb_) 0).trans rfl, (blk_cell (blk_below HH.out.hw hb_) 14).trans rfl⟩⟩
 have hS0 := LS.out w.drew (below_drew (Below.refl _ _))
 go_enter Tryz.func127, Tryz.ntmps127
 go_wp2
 refine start_ (n := 15) (S := fun w' => w'.cell? ⟨p.g, 0, none⟩ = some (.int .i64 p.c.n) ∧ w'.cell? ⟨p.g, 14, none⟩ = some (.int .i64 p.dir)) (ds := []) #[false, false, false, false, false, false, false, false, false, false, false, false, false, false, false] (by kernel_rfl) rfl rfl ?st0 (fun hHeld => ?_)
 case st0 => exact hS0
 refine plan_ [.p 0 8, .p 1 9, .p 2 10, .p 3 11, .t 4 12, .p 5 13, .p 6 14, .p 7 15, .p 8 16, .t 9 17, .p 10 18, .p 11 19, .p 12 20] ?_
 repeat (first | refine kP ?_ | refine kT hHeld ?_ | refine kG ?_)
 refine planE ?_
 refine jO 13 (some 21) (fun K hK => ?_)
 refine kC Tryz.func126 #[.int .i64 p.c.n, .int .i64 node, .int .i64 (wrap64 (wrap64 (-p.dir) * back))] ?_
 rw [WD trivial]
 refine (KA _).mono ?_
 rintro e W3 ⟨rfl, hw⟩
 subst hw
 refine ⟨_, rfl, ?_⟩
 refine hK.out _ _ (hS0) (fun hHeld => ?_)
 clear hK K
 refine kN ?_
 refine plan_ [.p 14 7] ?_
 repeat (first | refine kP ?_ | refine kT hHeld ?_ | refine kG ?_)
 refine planE ?_
 refine done_ (by kernel_rfl) ?_
 have HH1 := am (HH.out.below (below_drew (Below.refl w.heap.size w)))
 have HB := am (below_drew (Below.refl w.heap.size w))
 clear HH LS hS0 hHeld
 have HH := HH1
 clear HH1
 generalize w.drew = W1 at *
 have z18 : W1.cell? ⟨p.g, 18, none⟩ = some (.slice (some ⟨p.db, 0, none⟩) p.N p.N) := (blk_cell HH.out.hw 18).trans rfl
 have zd := dd W1 HH.out
 cases b with
 | false =>
  rw [if_pos rfl] at hRR
  subst hRR
  clear KE KC KA WD sd dd
  go_wp2
  go_ret
  exact ⟨rfl, HB.out⟩
 | true =>
  rw [if_neg (by simp)] at hRR
  subst hRR
  have LS : Aside0 (∀ w', Below W1.heap.size W1 w' → (fun w' => w'.cell? ⟨p.g, 0, none⟩ = some (.int .i64 p.c.n) ∧ w'.cell? ⟨p.g, 1, none⟩ = some (.int .i64 p.c.pi) ∧ w'.cell? ⟨p.g, 2, none⟩ = some (.int .i64 p.c.e) ∧ w'.cell? ⟨p.g, 3, none⟩ = some (.int .i64 p.c.g) ∧ w'.cell? ⟨p.g, 4, none⟩ = some (.int .i64 p.c.first) ∧ w'.cell? ⟨p.g, 5, none⟩ = some (.slice p.A p.c.pairs.length p.m) ∧ w'.cell? ⟨p.g, 6, none⟩ = some (.int .i64 p.f.kind) ∧ w'.cell? ⟨p.g, 7, none⟩ = some (.int .i64 p.f.at_) ∧ w'.cell? ⟨p.g, 8, none⟩ = some (.int .i64 p.f.frm) ∧ w'.cell? ⟨p.g, 9, none⟩ = some (.int .i64 p.f.to_) ∧ w'.cell? ⟨p.g, 10, none⟩ = some (.slice p.AA p.f.acts.length p.ma) ∧ w'.cell? ⟨p.g, 11, none⟩ = some (.slice p.AD p.f.devs.length p.md) ∧ w'.cell? ⟨p.g, 12, none⟩ = some (.int .i64 p.round) ∧ w'.cell? ⟨p.g, 13, none⟩ = some (.int .i64 p.slot) ∧ w'.cell? ⟨p.g, 17, none⟩ = some (.slice (some ⟨p.sb, 0, none⟩) p.N p.N) ∧ w'.cell? ⟨p.sb, k_.toNat * 4 + 2, none⟩ = some (.string (S (sides.getD k_.toNat zSd).o))) w') := ⟨fun w' hb_ => ⟨(blk_cell (blk_below HH.out.hw hb_) 0).trans rfl, (blk_cell (blk_below HH.out.hw hb_) 1).trans rfl, (blk_cell (blk_below HH.out.hw hb_) 2).trans rfl, (blk_cell (blk_below HH.out.hw hb_) 3).trans rfl, (blk_cell (blk_below HH.out.hw hb_) 4).trans rfl, (blk_cell (blk_below HH.out.hw hb_) 5).trans rfl, (blk_cell (blk_below HH.out.hw hb_) 6).trans rfl, (blk_cell (blk_below HH.out.hw hb_) 7).trans rfl, (blk_cell (blk_below HH.out.hw hb_) 8).trans rfl, (blk_cell (blk_below HH.out.hw hb_) 9).trans rfl, (blk_cell (blk_below HH.out.hw hb_) 10).trans rfl, (blk_cell (blk_below HH.out.hw hb_) 11).trans rfl, (blk_cell (blk_below HH.out.hw hb_) 12).trans rfl, (blk_cell (blk_below HH.out.hw hb_) 13).trans rfl, (blk_cell (blk_below HH.out.hw hb_) 17).trans rfl, sd w' (HH.out.below hb_)⟩⟩
  have HN := am (Below.refl W1.heap.size W1)
  have hS0 := LS.out W1.drew (below_drew (Below.refl _ _))
  have KE := fun W h => KE W (WvP.H.hc (HH.out.below h)) (WvP.H.hf (HH.out.below h))
  clear WD KA dd sd
  go_wp2
  refine start_ (n := 29) (S := fun w' => w'.cell? ⟨p.g, 0, none⟩ = some (.int .i64 p.c.n) ∧ w'.cell? ⟨p.g, 1, none⟩ = some (.int .i64 p.c.pi) ∧ w'.cell? ⟨p.g, 2, none⟩ = some (.int .i64 p.c.e) ∧ w'.cell? ⟨p.g, 3, none⟩ = some (.int .i64 p.c.g) ∧ w'.cell? ⟨p.g, 4, none⟩ = some (.int .i64 p.c.first) ∧ w'.cell? ⟨p.g, 5, none⟩ = some (.slice p.A p.c.pairs.length p.m) ∧ w'.cell? ⟨p.g, 6, none⟩ = some (.int .i64 p.f.kind) ∧ w'.cell? ⟨p.g, 7, none⟩ = some (.int .i64 p.f.at_) ∧ w'.cell? ⟨p.g, 8, none⟩ = some (.int .i64 p.f.frm) ∧ w'.cell? ⟨p.g, 9, none⟩ = some (.int .i64 p.f.to_) ∧ w'.cell? ⟨p.g, 10, none⟩ = some (.slice p.AA p.f.acts.length p.ma) ∧ w'.cell? ⟨p.g, 11, none⟩ = some (.slice p.AD p.f.devs.length p.md) ∧ w'.cell? ⟨p.g, 12, none⟩ = some (.int .i64 p.round) ∧ w'.cell? ⟨p.g, 13, none⟩ = some (.int .i64 p.slot) ∧ w'.cell? ⟨p.g, 17, none⟩ = some (.slice (some ⟨p.sb, 0, none⟩) p.N p.N) ∧ w'.cell? ⟨p.sb, k_.toNat * 4 + 2, none⟩ = some (.string (S (sides.getD k_.toNat zSd).o))) (ds := []) #[false, false, false, false, false, false, false, false, false, false, false, false, false, false, false, false, false, false, false, false, false, false, false, false, false, false, false, false, false] (by kernel_rfl) rfl rfl ?st0 (fun hHeld => ?_)
  case st0 => exact hS0
  refine plan_ [.p 0 30, .p 1 31, .p 2 32, .t 3 33, .p 4 34, .p 5 35, .p 6 36, .t 7 37, .p 8 38, .p 9 39, .p 10 40, .t 11 41, .p 12 42, .p 13 43, .p 14 44, .t 15 45, .p 16 46, .p 17 47, .p 18 48, .p 19 49, .p 20 50, .t 21 51, .p 22 52, .p 23 53, .p 24 54, .t 25 55] ?_
  repeat (first | refine kP ?_ | refine kT hHeld ?_ | refine kG ?_)
  refine planE ?_
  refine jO 26 (some 56) (fun K hK => ?_)
  refine kC Tryz.func138 #[p.c.v p.A p.m, p.f.v p.AA p.ma p.AD p.md, .int .i64 p.round, .int .i64 p.slot, .int .i64 k_, .int .i64 node, .string (S (sides.getD k_.toNat zSd).o)] ?_
  refine (KE _ (by first | exact HN.out | exact below_drew HN.out)).mono ?_
  rintro e W2 ⟨rfl, hb⟩
  replace HN := am (b_tr (by first | exact HN.out | exact below_drew HN.out) hb)
  clear hb
  refine ⟨_, rfl, ?_⟩
  refine hK.out _ _ (LS.out _ HN.out) (fun hHeld => ?_)
  clear hK K
  refine kN ?_
  refine jO 27 (some 57) (fun K hK => ?_)
  refine kC Tryz.func137 #[.string (S (p.f.emit p.c p.round p.slot k_ node (sides.getD k_.toNat zSd).o))] ?_
  refine (KC _).mono ?_
  rintro e W3 ⟨rfl, hb⟩
  replace HN := am (HN.out.trans (hb.mono HN.out.size))
  clear hb
  refine ⟨_, rfl, ?_⟩
  refine hK.out _ _ (LS.out _ HN.out) (fun hHeld => ?_)
  clear hK K
  refine kN ?_
  refine plan_ [.p 28 6] ?_
  repeat (first | refine kP ?_ | refine kT hHeld ?_ | refine kG ?_)
  refine planE ?_
  refine done_ (by kernel_rfl) ?_
  go_wp2
  go_ret
  exact ⟨rfl, HB.out.trans (HN.out.mono HB.out.size)⟩
end Go.Proofs.YtgcgglmmfgmaoaaGreat.PK
end
section
namespace Go.Proofs.YtgcgglmmfgmaoaaGreat.PK
open Go Go.RowKit Go.Proofs.YtgcgglmmfgmaoaaGreatW.PrintWords Go.Proofs.YtgcgglmmfgmaoaaGreatW.PrintLast Go.Proofs.YtgcgglmmfgmaoaaGreatW.PrintMore
attribute [local go_sem] max2_int min2_int max_two min_two
def atB (s : ByteArray) (i : Nat) : Int := if h : i < s.size then ((s[i]'h).toNat : Int) else 46
theorem atB_lt (s : ByteArray) (i : Nat) (h : i < s.size) : atB s i = ((s[i]'h).toNat : Int) := by unfold atB; rw [dif_pos h]
theorem atB_ge (s : ByteArray) (i : Nat) (h : ¬ i < s.size) : atB s i = 46 := by unfold atB; rw [dif_neg h]
theorem lane_at (s : ByteArray) (i : Nat) (hs : s.size ≤ 9223372036854775807) (w : World) :
  Calls Tryz.prog 142 #[.string s, .int .i64 i] w fun e w' => e = .returned (.int .u8 (atB s i)) ∧ w = w' := by
 by_cases h : i < s.size
 ·rw [atB_lt s i h]
  go_enter Tryz.func142, Tryz.ntmps142
  go_wp2
  go_ret
  exact ⟨rfl, rfl⟩
 ·rw [atB_ge s i h]
  have hd : decide (i < s.size) = false := decide_eq_false h
  clear h
  go_enter Tryz.func142, Tryz.ntmps142
  go_wp2
  go_ret
  exact ⟨rfl, rfl⟩
def symB (c : Int) : Bool := (c == 48 || c == 49) || c == 35
theorem lane_symbol (c : Int) (w : World) :
  Calls Tryz.prog 163 #[.int .i32 c] w fun e w' => e = .returned (.bool (symB c)) ∧ w = w' := by
 have hz : symB c = ((c == 48 || c == 49) || c == 35) := rfl
 have HZ := am hz
 clear hz
 go_enter Tryz.func163, Tryz.ntmps163
 go_wp2
 all_goals
  go_ret
  refine ⟨?_, rfl⟩
  rw [HZ.out]
  first | rfl | (rename_i h; subst h; rfl) | (rename_i h h2; subst h2; rfl)
def passB (cmp shut : Bool) (d s : Int) : Bool := (!shut && symB d) && (!cmp || s == d)
theorem lane_passes (cmp shut : Bool) (d s : Int) (g : Nat) (hd : 0 ≤ d) (hd2 : d ≤ 255) (w : World) (h0 : w.cell? ⟨g, 0, none⟩ = some (.bool cmp)) (h1 : w.cell? ⟨g, 1, none⟩ = some (.bool shut)) :
  Calls Tryz.prog 151 #[.pointer (some ⟨g, 0, none⟩), .int .u8 d, .int .u8 s] w fun e w' => e = .returned (.bool (passB cmp shut d s)) ∧ w = w' := by
 have hz : ∀ b, symB d = b → passB cmp shut d s = ((!shut && b) && (!cmp || s == d)) := fun b hb => by unfold passB; rw [hb]
 have HS : ∀ w, Calls Tryz.prog 163 #[.int .i32 d] w fun e w' => e = .returned (.bool (symB d)) ∧ w = w' := fun w => lane_symbol d w
 have HZ := am hz
 clear hz
 generalize hb : symB d = b at HS HZ
 have HB := am hb
 clear hb
 cases b <;> cases shut <;> cases cmp
 all_goals
  go_enter Tryz.func151, Tryz.ntmps151
  go_wp2_with (go_at_call 163; with_reducible refine (HS _).mono ?_; rintro e W ⟨rfl, rfl⟩)
 all_goals
  go_ret
  refine ⟨?_, rfl⟩
  rw [HZ.out _ rfl]
  first | rfl | (cases hq : (s == d) <;> first | rfl | (exfalso; simp_all; done) | (simp_all; done)) | skip
theorem lane_step (cmp shut : Bool) (d s : Int) (g : Nat) (hd : 0 ≤ d) (hd2 : d ≤ 255) (w : World) (h0 : w.cell? ⟨g, 0, none⟩ = some (.bool cmp)) (h1 : w.cell? ⟨g, 1, none⟩ = some (.bool shut)) (hf : w.frozen? ⟨g, 1, none⟩ = false) :
  Calls Tryz.prog 141 #[.pointer (some ⟨g, 0, none⟩), .int .u8 d, .int .u8 s] w fun e w' => e = .returned (.int .u8 (if passB cmp shut d s = true then d else 46)) ∧ w' = w.setCell ⟨g, 1, none⟩ (.bool (if passB cmp shut d s = true then d == 35 else true)) := by
 have HS : ∀ w, w.cell? ⟨g, 0, none⟩ = some (.bool cmp) → w.cell? ⟨g, 1, none⟩ = some (.bool shut) → Calls Tryz.prog 151 #[.pointer (some ⟨g, 0, none⟩), .int .u8 d, .int .u8 s] w fun e w' => e = .returned (.bool (passB cmp shut d s)) ∧ w = w' := fun w h0 h1 => lane_passes cmp shut d s g hd hd2 w h0 h1
 generalize passB cmp shut d s = b at HS ⊢
 cases b
 all_goals
  go_enter Tryz.func141, Tryz.ntmps141
  go_wp2_with (go_at_call 151; with_reducible refine (HS _ h0 h1).mono ?_; rintro e W ⟨rfl, rfl⟩)
  go_ret
  exact ⟨rfl, rfl⟩
def laneLen (cmp : Bool) : List UInt8 → List UInt8 → Nat
 | [], _ => 0
 | c :: d, [] => if symB (c.toNat : Int) && !cmp then (if c.toNat = 35 then 1 else laneLen cmp d [] + 1) else 0
 | c :: d, x :: s => if symB (c.toNat : Int) && (!cmp || x.toNat == c.toNat) then (if c.toNat = 35 then 1 else laneLen cmp d s + 1) else 0
theorem lane_New (c : Bool) (w : World) :
  Calls Tryz.prog 140 #[.bool c] w fun e w' => e = .returned (.pointer (some ⟨w.heap.size, 0, none⟩)) ∧ w' = w.alloc (.cells #[.bool c, .bool false] 257) := by
 go_enter Tryz.func140, Tryz.ntmps140
 go_wp2
 go_ret
 exact ⟨rfl, rfl⟩
theorem symB_46 : symB 46 = false := rfl
theorem drop_at_ (s : ByteArray) (k : Nat) (h : k < s.size) : s.data.toList.drop k = s[k]'h :: s.data.toList.drop (k + 1) := by
 have h' : k < s.data.toList.length := by simpa using h
 rw [List.drop_eq_getElem_cons h']; rfl
theorem drop_ge_ (s : ByteArray) (k : Nat) (h : ¬ k < s.size) : s.data.toList.drop k = [] := List.drop_eq_nil_of_le (by simpa using h)
def laneRest (cmp sh : Bool) (d s : ByteArray) (k : Nat) : Nat := if sh = true then 0 else laneLen cmp (d.data.toList.drop k) (s.data.toList.drop k)
theorem lane_pass (cmp sh : Bool) (d s : ByteArray) (k : Nat) (h : passB cmp sh (atB d k) (atB s k) = true) :
  k < d.size ∧ (atB d k == 46) = false ∧ laneRest cmp sh d s k = 1 + laneRest cmp (atB d k == 35) d s (k + 1) := by
 unfold passB at h
 simp only [Bool.and_eq_true, Bool.or_eq_true, Bool.not_eq_true'] at h
 obtain ⟨⟨hs, hy⟩, hc⟩ := h
 subst hs
 by_cases hk : k < d.size
 ·have hd := atB_lt d k hk
  have h46 : (atB d k == 46) = false := by
   cases he : (atB d k == 46) with
   | false => rfl
   | true => rw [eq_of_beq he] at hy; exact absurd hy (by simp [symB_46])
  refine ⟨hk, h46, ?_⟩
  unfold laneRest
  rw [drop_at_ d k hk, if_neg (by simp)]
  rw [hd] at hc hy ⊢
  have e35 : (((d[k]'hk).toNat : Int) == 35) = decide ((d[k]'hk).toNat = 35) := by
   rw [Bool.eq_iff_iff]; simp; omega
  rw [e35]
  by_cases hs : k < s.size
  ·rw [drop_at_ s k hs]
   rw [atB_lt s k hs] at hc
   have hcc : (!cmp || (s[k]'hs).toNat == (d[k]'hk).toNat) = true := by
    cases cmp with
    | false => rfl
    | true =>
     rcases hc with hc | hc
     ·exact absurd hc (by simp)
     ·have := eq_of_beq hc; simp; omega
   rw [laneLen, hy, hcc]
   by_cases h35 : (d[k]'hk).toNat = 35 <;> simp [h35] <;> omega
  ·rw [drop_ge_ s k hs, drop_ge_ s (k + 1) (by omega)]
   rw [atB_ge s k hs] at hc
   have hcc : (!cmp) = true := by
    rcases hc with hc | hc
    ·rw [hc]; rfl
    ·rw [hd, ← eq_of_beq hc] at h46; exact absurd h46 (by simp)
   rw [laneLen, hy, hcc]
   by_cases h35 : (d[k]'hk).toNat = 35 <;> simp [h35] <;> omega
 ·rw [atB_ge d k hk] at hy
  exact absurd hy (by simp [symB_46])
theorem lane_stop (cmp sh : Bool) (d s : ByteArray) (k : Nat) (h : passB cmp sh (atB d k) (atB s k) = false) : laneRest cmp sh d s k = 0 := by
 unfold laneRest
 cases sh with
 | true => rfl
 | false =>
  rw [if_neg (by simp)]
  by_cases hk : k < d.size
  ·rw [drop_at_ d k hk]
   unfold passB at h
   rw [atB_lt d k hk] at h
   by_cases hs : k < s.size
   ·rw [drop_at_ s k hs]
    rw [atB_lt s k hs] at h
    unfold laneLen
    have e : (((s[k]'hs).toNat : Int) == ((d[k]'hk).toNat : Int)) = ((s[k]'hs).toNat == (d[k]'hk).toNat) := by
     rw [Bool.eq_iff_iff, beq_iff_eq, beq_iff_eq]; exact Int.ofNat_inj
    rw [e] at h
    simp only [Bool.not_false, Bool.true_and] at h
    rw [h]; rfl
   ·rw [drop_ge_ s k hs]
    rw [atB_ge s k hs] at h
    unfold laneLen
    cases hy : symB ((d[k]'hk).toNat : Int) with
    | false => rfl
    | true =>
     rw [hy] at h
     cases cmp with
     | true => rfl
     | false => exact absurd h (by simp)
  ·rw [drop_ge_ d k hk]
   unfold laneLen
   rfl
def laneOut (cmp : Bool) (d s : ByteArray) : ByteArray := d.extract 0 (laneLen cmp d.data.toList s.data.toList)
theorem atB_range (s : ByteArray) (i : Nat) : 0 ≤ atB s i ∧ atB s i ≤ 255 := by
 unfold atB
 split
 ·have := (s[i]).toNat_lt; omega
 ·omega
theorem lane_Out (cmp : Bool) (d s : ByteArray) (w : World) (hd : d.size ≤ 1000000) (hs : s.size ≤ 1000000) :
  Calls Tryz.prog 129 #[.bool cmp, .string d, .string s] w fun e w' => e = .returned (.string (laneOut cmp d s)) ∧ Below w.heap.size w w' := by
 have HD := am hd
 have HS := am hs
 go_enter Tryz.func129, Tryz.ntmps129
 go_wp2_with (go_at_call 140; with_reducible refine (lane_New cmp _).mono ?_; rintro e W ⟨rfl, rfl⟩)
 have HC := bld_new (w.alloc (.cells #[.bool cmp, .bool false] 257)) (w.heap.size + 1) (by simp)
 have HG := blk_alloc (blk_new w (.cells #[.bool cmp, .bool false] 257)) (.cells #[.pointer none, .slice none 0 0] 146)
 have HW := (b_al w (.cells #[.bool cmp, .bool false] 257)).alloc (by simp) (.cells #[.pointer none, .slice none 0 0] 146)
 rw [show (w.alloc (.cells #[.bool cmp, .bool false] 257)).heap.size = w.heap.size + 1 by simp] at HC
 have hA := am HC
 have hG := am HG
 have hW := am HW
 clear HC HG HW hd hs
 generalize hgg : w.heap.size = g at *
 go_loopw [10] (fun i w' => ∃ (k : Nat) (sh : Bool), i = .int .i64 k ∧ k ≤ d.size ∧ Aside0 (laneLen cmp d.data.toList s.data.toList = k + laneRest cmp sh d s k) ∧ Aside0 (IsB (g + 1) (g + 1) (d.data.toList.take k) w') ∧ Aside0 (w'.heap[g]? = some (.cells #[.bool cmp, .bool sh] 257 (0, 0))) ∧ Aside0 (Below g w w')) (fun i _ => d.size - (intOf i).toNat)
 case atStart => exact ⟨0, false, rfl, by omega, ⟨by simp [laneRest]⟩, ⟨hA.out⟩, hG, hW⟩
 case round =>
  clear hA hG hW
  obtain ⟨k, sh, rfl, hk, hL, hA, hG, hW⟩ := hrel
  have hds : d.size ≤ 1000000 := HD.out
  have hr1 := atB_range d k
  have hr2 := atB_range s k
  have c0 : wr.cell? ⟨g, 0, none⟩ = some (.bool cmp) := (blk_cell hG.out 0).trans rfl
  have c1 : wr.cell? ⟨g, 1, none⟩ = some (.bool sh) := (blk_cell hG.out 1).trans rfl
  have f1 := blk_frozen hG.out 1
  have KA := fun W => lane_at d k (by have := HD.out; omega) W
  have KS := fun W => lane_at s k (by have := HS.out; omega) W
  have KT := lane_step cmp sh (atB d k) (atB s k) g hr1.1 hr1.2 wr c0 c1 f1
  have hlt : g + 1 < wr.heap.size := by
   have := hA.out
   rcases this with h | h <;> exact h.lt
  by_cases hp : passB cmp sh (atB d k) (atB s k) = true
  ·obtain ⟨hk2, h46, hrest⟩ := lane_pass cmp sh d s k hp
   rw [if_pos hp, if_pos hp] at KT
   have HR := am hrest
   have hbyte := am (atB_lt d k hk2)
   clear hrest hp
   have KW := fun W h => bld_WriteByte (g + 1) (g + 1) (Lib.byteCells (d.data.toList.take k)) (atB d k) W h (by simp [Lib.byteCells]; have := HD.out; omega)
   generalize hc : atB d k = c at *
   generalize hc2 : atB s k = c2 at *
   clear hc hc2
   go_wp2_with (first
    | (go_at_call 142; ((with_reducible refine (KA _).mono ?_); rintro e W ⟨rfl, rfl⟩))
    | (go_at_call 142; ((with_reducible refine (KS _).mono ?_); rintro e W ⟨rfl, rfl⟩))
    | (go_at_call 141; with_reducible refine KT.mono ?_; rintro e W ⟨rfl, rfl⟩)
    | (go_at_call 143; refine (KW _ (bld_move hA.out (fun q hq => Below.heap_setCell wr _ _ q (fun e => by rw [e] at hq; exact absurd hq (by simp)))) (by simp; omega)).mono ?_; rintro e W ⟨rfl, hb, hB⟩))
   have hG2 := blk_put hG.out 1 (.bool (c == 35)) rfl
   have hG3 : W.heap[g]? = some (.cells #[.bool cmp, .bool (c == 35)] 257 (0, 0)) := (hB.block g (by omega)).trans hG2
   have hW3 := (hW.out.setCell (p := ⟨g, 1, none⟩) (Nat.le_refl _) (.bool (c == 35))).trans (hB.mono (by omega))
   have hL3 := hL.out.trans (by rw [HR.out]; exact (Nat.add_assoc k 1 _).symm : k + laneRest cmp sh d s k = (k + 1) + laneRest cmp (c == 35) d s (k + 1))
   have hA3 : IsB (g + 1) (g + 1) (d.data.toList.take (k + 1)) W := by
    rw [hbyte.out, byteCells_snoc, ← take_snoc_ d k hk2] at hb
    exact .inr hb
   have a1 := am hG3
   have a2 := am hW3
   have a3 := am hL3
   have a4 := am hA3
   clear hG2 hG3 hW3 hL3 hA3 hb hB hG hW hL hA
   go_roundw
   case rel => exact ⟨k + 1, _, by simp, by omega, a3, a4, a1, a2⟩
   case measure => simp [intOf]; omega
  ·have hp2 : passB cmp sh (atB d k) (atB s k) = false := by simpa using hp
   have hz := lane_stop cmp sh d s k hp2
   rw [if_neg hp, if_neg hp] at KT
   have hlen : laneLen cmp d.data.toList s.data.toList = k := by rw [hL.out, hz]; rfl
   have HLn := am hlen
   clear hz hp hp2 hlen
   have KB := fun W h h2 => Tryz.Builder_String_any (g + 1) (g + 1) (d.data.toList.take k) W h h2
   generalize hc : atB d k = c at *
   generalize hc2 : atB s k = c2 at *
   clear hc hc2
   go_wp2_with (first
    | (go_at_call 142; ((with_reducible refine (KA _).mono ?_); rintro e W ⟨rfl, rfl⟩))
    | (go_at_call 142; ((with_reducible refine (KS _).mono ?_); rintro e W ⟨rfl, rfl⟩))
    | (go_at_call 141; with_reducible refine KT.mono ?_; rintro e W ⟨rfl, rfl⟩)
    | (go_at_call 98; refine (KB _ (bld_move hA.out (fun q hq => Below.heap_setCell wr _ _ q (fun e => by rw [e] at hq; exact absurd hq (by simp)))) (by simp; omega)).mono ?_; rintro e W ⟨rfl, hB⟩))
   have hW3 := (hW.out.setCell (p := ⟨g, 1, none⟩) (Nat.le_refl _) (.bool true)).trans (hB.mono (by omega))
   go_ret
   refine ⟨?_, by rw [hgg]; exact hW3⟩
   unfold laneOut
   rw [HLn.out]
   refine congrArg (fun x => Ending.returned (.string x)) ?_
   apply ByteArray.ext
   rw [ByteArray.data_extract]
   apply Array.ext'
   simp
end Go.Proofs.YtgcgglmmfgmaoaaGreat.PK
end
section
namespace Go.Proofs.YtgcgglmmfgmaoaaGreat.PK
open Go Go.RowKit Go.Proofs.YtgcgglmmfgmaoaaGreatW.PrintWords Go.Proofs.YtgcgglmmfgmaoaaGreatW.PrintLast Go.Proofs.YtgcgglmmfgmaoaaGreatW.PrintMore
attribute [local go_sem] max2_int min2_int max_two min_two
def laneL (cmp : Bool) (d s : List UInt8) : List UInt8 := d.take (laneLen cmp d s)
theorem laneOut_S (cmp : Bool) (d s : List UInt8) : laneOut cmp (S d) (S s) = S (laneL cmp d s) := by
 unfold laneOut laneL
 rw [S_data, S_data, S_take]
def guardL (pi st dv : Int) (d : List UInt8) : List UInt8 := if admB pi st dv = true then d else []
theorem guardS_S (pi st dv : Int) (d : List UInt8) : guardS pi st dv (S d) = S (guardL pi st dv d) := by
 unfold guardS guardL
 split <;> rfl
theorem guardL_le (pi st dv : Int) (d : List UInt8) : (guardL pi st dv d).length ≤ d.length := by unfold guardL; split <;> simp
theorem laneL_le (cmp : Bool) (d s : List UInt8) : (laneL cmp d s).length ≤ d.length := by unfold laneL; rw [List.length_take]; omega
def WvP.dirL (p : WvP) (sides : List Sd) (dn : List Bool) (node far : Int) : List UInt8 := if far = 1 then guardL p.c.pi (rd p.states node) (rd p.devs node) (p.come sides dn node 1) else p.come sides dn node 1
def WvP.outL (p : WvP) (sides : List Sd) (dn : List Bool) (node far : Int) : List UInt8 := if rd p.states node = 0 then [] else laneL (decide (1 < far) || decide (p.c.n ≤ p.slot)) (p.dirL sides dn node far) (p.come sides dn node 2)
def WvP.side (p : WvP) (sides : List Sd) (dn : List Bool) (node far : Int) : Sd := ⟨p.dirL sides dn node far, p.come sides dn node 2, p.outL sides dn node far, far⟩
def F2 (p : WvP) (k : Nat) : Prop := k = p.sb ∨ k = p.db
theorem come_len {p : WvP} (hk : p.KD) (sides : List Sd) (dn : List Bool) (hso : ∀ x ∈ sides, x.o.length ≤ 900) (node back : Int) : (p.come sides dn node back).length ≤ 900 := by
 unfold WvP.come
 split
 ·simp
 ·refine Nat.le_trans (cleanL_le _) (emit_len hk _ _ _ ?_)
  rw [List.getD_eq_getElem?_getD]
  cases h : sides[(p.from_ node back).toNat]? with
  | none => simp [zSd]
  | some x => exact hso _ (List.mem_of_getElem? h)
theorem wv_cells {p : WvP} {w0 W : World} {sides : List Sd} {dn : List Bool} (h : p.H w0 W sides dn) : W.cell? ⟨p.g, 0, none⟩ = some (.int .i64 p.c.n) ∧ W.cell? ⟨p.g, 1, none⟩ = some (.int .i64 p.c.pi) ∧ W.cell? ⟨p.g, 2, none⟩ = some (.int .i64 p.c.e) ∧ W.cell? ⟨p.g, 3, none⟩ = some (.int .i64 p.c.g) ∧ W.cell? ⟨p.g, 4, none⟩ = some (.int .i64 p.c.first) ∧ W.cell? ⟨p.g, 5, none⟩ = some (.slice p.A p.c.pairs.length p.m) ∧ W.cell? ⟨p.g, 6, none⟩ = some (.int .i64 p.f.kind) ∧ W.cell? ⟨p.g, 7, none⟩ = some (.int .i64 p.f.at_) ∧ W.cell? ⟨p.g, 8, none⟩ = some (.int .i64 p.f.frm) ∧ W.cell? ⟨p.g, 9, none⟩ = some (.int .i64 p.f.to_) ∧ W.cell? ⟨p.g, 10, none⟩ = some (.slice p.AA p.f.acts.length p.ma) ∧ W.cell? ⟨p.g, 11, none⟩ = some (.slice p.AD p.f.devs.length p.md) ∧ W.cell? ⟨p.g, 12, none⟩ = some (.int .i64 p.round) ∧ W.cell? ⟨p.g, 13, none⟩ = some (.int .i64 p.slot) ∧ W.cell? ⟨p.g, 14, none⟩ = some (.int .i64 p.dir) ∧ W.cell? ⟨p.g, 15, none⟩ = some (.slice p.As p.states.length p.ms) ∧ W.cell? ⟨p.g, 16, none⟩ = some (.slice p.Av p.devs.length p.mv) ∧ W.cell? ⟨p.g, 17, none⟩ = some (.slice (some ⟨p.sb, 0, none⟩) p.N p.N) ∧ W.cell? ⟨p.g, 18, none⟩ = some (.slice (some ⟨p.db, 0, none⟩) p.N p.N) := ⟨(blk_cell h.hw 0).trans rfl, (blk_cell h.hw 1).trans rfl, (blk_cell h.hw 2).trans rfl, (blk_cell h.hw 3).trans rfl, (blk_cell h.hw 4).trans rfl, (blk_cell h.hw 5).trans rfl, (blk_cell h.hw 6).trans rfl, (blk_cell h.hw 7).trans rfl, (blk_cell h.hw 8).trans rfl, (blk_cell h.hw 9).trans rfl, (blk_cell h.hw 10).trans rfl, (blk_cell h.hw 11).trans rfl, (blk_cell h.hw 12).trans rfl, (blk_cell h.hw 13).trans rfl, (blk_cell h.hw 14).trans rfl, (blk_cell h.hw 15).trans rfl, (blk_cell h.hw 16).trans rfl, (blk_cell h.hw 17).trans rfl, (blk_cell h.hw 18).trans rfl⟩
theorem cells4 {W : World} {g T : Nat} {a b c d : Value} (h : W.heap[g]? = some (.cells #[a, b, c, d] T (0, 0))) : W.cell? ⟨g, 0, none⟩ = some a ∧ W.cell? ⟨g, 1, none⟩ = some b ∧ W.cell? ⟨g, 2, none⟩ = some c ∧ W.cell? ⟨g, 3, none⟩ = some d := ⟨(blk_cell h 0).trans rfl, (blk_cell h 1).trans rfl, (blk_cell h 2).trans rfl, (blk_cell h 3).trans rfl⟩
theorem info_side4 : (Tryz.prog.info? 127).map (·.size) = some 4 := by kernel_rfl
theorem done_at {W : World} {g T : Nat} {dn : List Bool} (h : W.heap[g]? = some (.cells (dn.map Value.bool).toArray T (0, 0))) (i : Nat) (hi : i < dn.length) : W.cell? ⟨g, i, none⟩ = some (.bool (dn.getD i false)) := by
 rw [blk_cell h i, List.getElem?_toArray, List.getElem?_map, List.getD_eq_getElem?_getD, List.getElem?_eq_getElem hi]; rfl
theorem sdsV_set : ∀ (l : List Sd) (i : Nat) (x : Sd), i < l.length → overAt (sdsV l) (i * 4) x.cs = sdsV (l.set i x)
 | [], i, x, h => by simp at h
 | y :: r, 0, x, _ => by simp [overAt, sdsV, Sd.cs]
 | y :: r, i + 1, x, h => by
  have := sdsV_set r i x (by simpa using h)
  rw [List.set_cons_succ, sdsV, sdsV, ← this]
  have e : (i + 1) * 4 = y.cs.length + i * 4 := by simp [Sd.cs]; omega
  unfold overAt
  rw [e, List.take_length_add_append, Nat.add_assoc, List.drop_length_add_append]
  simp
theorem bools_set (l : List Bool) (i : Nat) (b : Bool) : (l.map Value.bool).toArray.setIfInBounds i (.bool b) = ((l.set i b).map Value.bool).toArray := by simp [List.map_set]
theorem reach_calls (p : WvP) (ok : p.OK) (hk : p.KD) (node far : Int) (hn0 : 0 ≤ node) (hn1 : node < p.N) (hf0 : 1 ≤ far) (sides : List Sd) (dn : List Bool) (hsl : sides.length = p.N) (hdl : dn.length = p.N) (hso : ∀ x ∈ sides, x.o.length ≤ 900) (w0 w : World) (hH : p.H w0 w sides dn) :
  Calls Tryz.prog 101 #[.pointer (some ⟨p.g, 0, none⟩), .int .i64 node, .int .i64 far] w fun e w' => e = .returned (.tuple #[]) ∧ p.H w0 w' (sides.set node.toNat (p.side sides dn node far)) (dn.set node.toNat true) ∧ Kp (F2 p) w w' := by
 have K1 := fun W hW => come_calls p ok hk node 1 hn0 hn1 (by omega) (by omega) sides dn hsl hdl hso w0 W hW
 have K2 := fun W hW => come_calls p ok hk node 2 hn0 hn1 (by omega) (by omega) sides dn hsl hdl hso w0 W hW
 have hl1 := come_len hk sides dn hso node 1
 have hl2 := come_len hk sides dn hso node 2
 unfold WvP.side WvP.outL WvP.dirL
 generalize p.come sides dn node 1 = c1 at *
 generalize p.come sides dn node 2 = c2 at *
 have hHH := am hH
 have HB := am (Below.refl w.heap.size w)
 have hst := ok.st
 have hdv := ok.dv
 have KG := am (fun W s => guard_Stream p.c.n p.c.pi p.c.e p.c.g p.c.first (rd p.states node) (rd p.devs node) (.slice p.A p.c.pairs.length p.m) s (by have := ok.hc.p0; have := ok.hc.e0; have := ok.hc.g0; omega) (by have := ok.hc.p1; omega) W)
 have AS := fun W (h : p.H w0 W sides dn) => Kd.at_int h.hst node hn0 (by omega)
 have AV := fun W (h : p.H w0 W sides dn) => Kd.at_int h.hdv node hn0 (by omega)
 have QQ := am (show ((0 ≤ node) = True) ∧ ((node < (p.states.length : Int)) = True) ∧ ((node < (p.devs.length : Int)) = True) ∧ ((node < (p.N : Int)) = True) from ⟨eq_true hn0, eq_true (by omega), eq_true (by omega), eq_true hn1⟩)
 obtain ⟨aS, hAs, _⟩ := AS w hHH.out
 obtain ⟨aV, hAv, _⟩ := AV w hHH.out
 have AS2 : Aside0 (∀ W, p.H w0 W sides dn → W.cell? (aS.add node.toNat) = some (.int .i64 (rd p.states node))) := ⟨fun W h => by
  obtain ⟨a2, h1, h2⟩ := AS W h
  obtain rfl : a2 = aS := by rw [h1] at hAs; exact Option.some.inj hAs
  exact h2⟩
 have AV2 : Aside0 (∀ W, p.H w0 W sides dn → W.cell? (aV.add node.toNat) = some (.int .i64 (rd p.devs node))) := ⟨fun W h => by
  obtain ⟨a2, h1, h2⟩ := AV W h
  obtain rfl : a2 = aV := by rw [h1] at hAv; exact Option.some.inj hAv
  exact h2⟩
 have HAs := am hAs
 have HAv := am hAv
 clear AS AV hAs hAv
 generalize rd p.states node = st at *
 generalize rd p.devs node = dv at *
 have hdl1 : (if far = 1 then guardL p.c.pi st dv c1 else c1).length ≤ 900 := by
  split
  ·exact Nat.le_trans (guardL_le _ _ _ _) hl1
  ·exact hl1
 generalize hD : (if far = 1 then guardL p.c.pi st dv c1 else c1) = dd at *
 generalize hO : (if st = 0 then [] else laneL (decide (1 < far) || decide (p.c.n ≤ p.slot)) dd c2) = oo at *
 have KL := am (fun W cmp => lane_Out cmp (S dd) (S c2) W (by rw [S_size]; omega) (by rw [S_size]; omega))
 have HL := am (show node.toNat < sides.length ∧ node.toNat < dn.length from ⟨by omega, by omega⟩)
 have hne := am (show p.g ≠ p.sb ∧ p.g ≠ p.db ∧ p.sb ≠ p.db from ⟨fun e => by have h1 := hH.hw; rw [e, hH.hs] at h1; simp at h1, fun e => by have h1 := hH.hw; rw [e, hH.hd] at h1; simp at h1, fun e => by have h1 := hH.hs; rw [e, hH.hd] at h1; simp at h1⟩)
 have hlt := am (show p.g < w.heap.size ∧ p.sb < w.heap.size ∧ p.db < w.heap.size from ⟨blk_lt hH.hw, blk_lt hH.hs, blk_lt hH.hd⟩)
 have hst0 := am (show (Aside0 (st = 0) ∧ (st != 0) = false) ∨ (Aside0 (st ≠ 0) ∧ (st != 0) = true) by by_cases h : st = 0; exact .inl ⟨⟨h⟩, by simp [h]⟩; exact .inr ⟨⟨h⟩, by simp [h]⟩)
 have hfar := am (show far = 1 ∨ (1 < far ∧ far ≠ 1) by omega)
 have HD := am hD
 have HO := am hO
 clear hD hO
 clear hH hn0 hn1 hsl hdl hso ok hk hst hdv hf0 hl1 hl2 hdl1
 rcases hfar.out with rfl | hf
 ·have HD2 := am (show guardL p.c.pi st dv c1 = dd by have := HD.out; rwa [if_pos rfl] at this)
  have HO2 := am (show (if st = 0 then [] else laneL (decide (p.c.n ≤ p.slot)) dd c2) = oo by have := HO.out; simpa using this)
  clear HD HO hfar
  have HO := HO2
  clear HO2
  go_enter Tryz.func101, Tryz.ntmps101
  go_upto_region 3 with (first
   | (go_at_call 127; (with_reducible refine (K1 _ (hHH.out.below HB.out)).mono ?_); rintro e W1 ⟨rfl, hb⟩; replace HB := am (b_tr HB.out hb); clear hb)
   | (go_at_call 127; (with_reducible refine (K2 _ (hHH.out.below HB.out)).mono ?_); rintro e W2 ⟨rfl, hb⟩; replace HB := am (b_tr HB.out hb); clear hb))
  clear K1 K2
  obtain ⟨q0, q1, q2, q3⟩ := QQ.out
  clear QQ
  have HG := am (blk_new W2 (.cells #[.string (S c1), .string (S c2), .string ⟨#[]⟩, .int .i64 1] 127))
  have n2 := am (below_alloc HB.out (.cells #[.string (S c1), .string (S c2), .string ⟨#[]⟩, .int .i64 1] 127))
  have HSG := am HB.out.size
  clear HB
  have HB := n2
  clear n2
  generalize W2.alloc (.cells #[.string (S c1), .string (S c2), .string ⟨#[]⟩, .int .i64 1] 127) = W3 at *
  generalize W2.heap.size = sg at *
  have Z := wv_cells (hHH.out.below HB.out)
  have zs := AS2.out _ (hHH.out.below HB.out)
  have zd := AV2.out _ (hHH.out.below HB.out)
  rw [HAs.out, HAv.out] at Z
  have gg := cells4 HG.out
  have HN := am (Below.refl W3.heap.size W3)
  refine startB (n := 23) (F := fun _ => False) (ds := [22]) (by kernel_rfl) rfl (fun hHeld => ?_)
  refine plan_ [.p 0 20, .p 1 21, .p 2 22, .t 3 23, .p 4 24, .p 5 25, .p 6 26, .t 7 27, .p 8 28, .p 9 29, .t 10 30, .p 11 31, .p 12 32, .p 13 33, .t 14 34, .p 15 35, .p 16 36, .t 17 37, .p 18 38, .t 19 39] ?_
  repeat (first | refine jP ?_ | refine jW hHeld ?_ | refine jG ?_)
  refine planE ?_
  refine jO 20 (some 40) (fun K hK => ?_)
  refine kC Tryz.func128 #[p.c.v p.A p.m, .int .i64 st, .int .i64 dv, .string (S c1)] ?_
  refine (KG.out _ _).mono ?_
  rintro e W4 ⟨rfl, hb⟩
  rw [guardS_S, HD2.out]
  replace HN := am (b_tr (by first | exact HN.out | exact below_drew HN.out) hb)
  clear hb
  refine ⟨_, rfl, ?_⟩
  refine hK.out _ _ (Kp.of HN.out) (fun hHeld => ?_)
  clear hK K
  refine jM 40 ?_
  refine plan_ [.p 21 41] ?_
  repeat (first | refine jP ?_ | refine jW hHeld ?_ | refine jG ?_)
  refine planE ?_
  refine jL 22 none (fun K hK => ?_)
  have y0 := (blk_cell (blk_below HG.out HN.out) 0).trans rfl
  have yf := blk_frozen (blk_below HG.out HN.out) 0
  refine skip_ (w1 := W4.setCell ⟨sg, 0, none⟩ (.string (S dd))) (by rfl) rfl (by go_simp; try rfl) ?_
  refine hK.out _ _ ?_
  clear hK K
  refine done_ (by kernel_rfl) ?_
  have n1 := am (((HB.out.trans (HN.out.mono HB.out.size))).setCell HSG.out (.string (S dd)) (p := ⟨sg, 0, none⟩))
  have n2 := am (blk_put (blk_below HG.out HN.out) 0 (.string (S dd)) (cs' := #[.string (S dd), .string (S c2), .string ⟨#[]⟩, .int .i64 1]) rfl)
  clear HB HG HN Z zs zd gg
  have HB := n1
  have HG := n2
  clear n1 n2
  generalize W4.setCell ⟨sg, 0, none⟩ (.string (S dd)) = W5 at *
  have Z := wv_cells (hHH.out.below HB.out)
  have zs := AS2.out _ (hHH.out.below HB.out)
  have zd := AV2.out _ (hHH.out.below HB.out)
  rw [HAs.out, HAv.out] at Z
  have gg := cells4 HG.out
  rcases hst0.out with ⟨hs1, hs3⟩ | ⟨hs1, hs3⟩
  ·go_wp2
   have ho := HO.out
   rw [if_pos hs1.out] at ho
   have n2 := am (show W5.heap[sg]? = some (.cells #[.string (S dd), .string (S c2), .string (S oo), .int .i64 1] 127 (0, 0)) by rw [← ho]; exact HG.out)
   clear HG
   have HG := n2
   clear n2 ho
   obtain ⟨W8, e8⟩ : ∃ W8, W8 = W5 := ⟨_, rfl⟩
   subst e8
   clear Z zs zd gg
   have Z := wv_cells (hHH.out.below HB.out)
   have gg := cells4 HG.out
   have hsb := am (hHH.out.below HB.out).hs
   have hdb := am (hHH.out.below HB.out).hd
   have nfg : Aside0 (¬ F2 p p.g) := ⟨fun e => e.elim hne.out.1 hne.out.2.1⟩
   have nfs : Aside0 (¬ F2 p sg) := ⟨fun e => e.elim (fun e => by have := hlt.out.2.1; have := HSG.out; omega) (fun e => by have := hlt.out.2.2; have := HSG.out; omega)⟩
   go_wp2
   refine startB (n := 15) (F := F2 p) (ds := []) (by kernel_rfl) rfl (fun hHeld => ?_)
   refine plan_ [.p 0 70, .p 1 71, .p 2 72, .t 3 73, .p 4 74, .p 5 75, .p 6 76, .p 7 77, .t 8 78, .p 9 79, .t 10 80, .p 11 81] ?_
   repeat (first | refine jP ?_ | refine jW (hF := by first | exact nfg.out | exact nfs.out) hHeld ?_ | refine jG ?_)
   refine planE ?_
   refine jO 12 none (fun K hK => ?_)
   have HK := am hHeld
   clear hHeld
   refine store_ev (by rfl) rfl _ _ _ rfl p.sb (node.toNat * 4) 127 #[.string (S dd), .string (S c2), .string (S oo), .int .i64 1] (sdsV sides) rfl (by rfl) hsb.out (by rw [sdsV_len]; have := HL.out.1; simp; omega) info_side4 (by simp [Value.oneCell']) (fun W7 h7 k7 => ?_)
   have H7 := am h7
   have K7 := am (HK.out.trans (k7.mono (fun i _ e => Or.inl e)))
   have hdb7 := am (k7.blk hdb.out (fun e => hne.out.2.2 e.symm))
   clear h7 k7 HK
   refine hK.out _ _ (K7.out) (fun hHeld => ?_)
   clear hK K
   refine plan_ [.p 13 82] ?_
   repeat (first | refine jP ?_ | refine jW (hF := by first | exact nfg.out | exact nfs.out) hHeld ?_ | refine jG ?_)
   refine planE ?_
   refine jO 14 none (fun K hK => ?_)
   have y0 := done_at hdb7.out node.toNat HL.out.2
   have yf := blk_frozen hdb7.out node.toNat
   refine skip_ (w1 := W7.setCell ⟨p.db, node.toNat, none⟩ (.bool true)) (by rfl) rfl (by go_simp; try rfl) ?_
   refine hK.out _ _ (K7.out.set_ (.inl (.inr rfl)) _) (fun hHeld => ?_)
   clear hK K
   refine done_ (by kernel_rfl) ?_
   have KX := am (K7.out.set_ (p := ⟨p.db, node.toNat, none⟩) (.inl (.inr rfl)) (.bool true))
   clear Z gg y0 yf
   go_end0
   refine ⟨rfl, ⟨KX.out.blk (hHH.out.below HB.out).hw nfg.out, ?_, blk_put hdb7.out _ _ (bools_set _ _ _), (hHH.out.hB.trans (HB.out.mono hHH.out.hB.size)).trans (KX.out.below (Nat.le_trans hHH.out.hB.size HB.out.size) (fun i hi e => e.elim (fun e => by have := hHH.out.h0.gs; omega) (fun e => by have := hHH.out.h0.gd; omega))), hHH.out.h0⟩, (Kp.of HB.out).trans KX.out⟩
   rw [Below.heap_setCell _ _ _ _ hne.out.2.2, H7.out]
   exact congrArg (fun l : List Value => some (Obj.cells l.toArray 127 (0, 0))) (sdsV_set sides node.toNat ⟨dd, c2, oo, 1⟩ HL.out.1)
  ·go_wp2
   have HN := am (Below.refl W5.heap.size W5)
   have HO2 := am (show laneL (decide (p.c.n ≤ p.slot)) dd c2 = oo by have ho := HO.out; rwa [if_neg hs1.out] at ho)
   refine startB (n := 21) (F := fun _ => False) (ds := [20]) (by kernel_rfl) rfl (fun hHeld => ?_)
   refine plan_ [.p 0 50, .p 1 51, .p 2 52, .p 3 53, .p 4 54, .p 5 55, .t 6 56, .p 7 57, .p 8 58, .p 9 59, .p 10 60, .t 11 61, .p 12 62, .p 13 63, .p 14 64, .t 15 65, .p 16 66, .t 17 67] ?_
   repeat (first | refine jP ?_ | refine jW hHeld ?_ | refine jG ?_)
   refine planE ?_
   refine jO 18 (some 68) (fun K hK => ?_)
   refine kC Tryz.func129 #[.bool (decide (p.c.n ≤ p.slot)), .string (S dd), .string (S c2)] ?_
   refine (KL.out _ _).mono ?_
   rintro e W6 ⟨rfl, hb⟩
   rw [laneOut_S, HO2.out]
   replace HN := am (b_tr (by first | exact HN.out | exact below_drew HN.out) hb)
   clear hb
   refine ⟨_, rfl, ?_⟩
   refine hK.out _ _ (Kp.of HN.out) (fun hHeld => ?_)
   clear hK K
   refine jM 68 ?_
   refine plan_ [.p 19 69] ?_
   repeat (first | refine jP ?_ | refine jW hHeld ?_ | refine jG ?_)
   refine planE ?_
   refine jL 20 none (fun K hK => ?_)
   have yy := cells4 (blk_below HG.out HN.out)
   have yf := blk_frozen (blk_below HG.out HN.out) 2
   refine skip_ (w1 := W6.setCell ⟨sg, 2, none⟩ (.string (S oo))) (by rfl) rfl (by go_simp; try rfl) ?_
   refine hK.out _ _ ?_
   clear hK K
   refine done_ (by kernel_rfl) ?_
   have n1 := am (((HB.out.trans (HN.out.mono HB.out.size))).setCell HSG.out (.string (S oo)) (p := ⟨sg, 2, none⟩))
   have n2 := am (blk_put (blk_below HG.out HN.out) 2 (.string (S oo)) (cs' := #[.string (S dd), .string (S c2), .string (S oo), .int .i64 1]) rfl)
   clear HB HG HN Z zs zd gg
   have HB := n1
   have HG := n2
   clear n1 n2
   generalize W6.setCell ⟨sg, 2, none⟩ (.string (S oo)) = W8 at *
   have Z := wv_cells (hHH.out.below HB.out)
   have gg := cells4 HG.out
   have hsb := am (hHH.out.below HB.out).hs
   have hdb := am (hHH.out.below HB.out).hd
   have nfg : Aside0 (¬ F2 p p.g) := ⟨fun e => e.elim hne.out.1 hne.out.2.1⟩
   have nfs : Aside0 (¬ F2 p sg) := ⟨fun e => e.elim (fun e => by have := hlt.out.2.1; have := HSG.out; omega) (fun e => by have := hlt.out.2.2; have := HSG.out; omega)⟩
   go_wp2
   refine startB (n := 15) (F := F2 p) (ds := []) (by kernel_rfl) rfl (fun hHeld => ?_)
   refine plan_ [.p 0 70, .p 1 71, .p 2 72, .t 3 73, .p 4 74, .p 5 75, .p 6 76, .p 7 77, .t 8 78, .p 9 79, .t 10 80, .p 11 81] ?_
   repeat (first | refine jP ?_ | refine jW (hF := by first | exact nfg.out | exact nfs.out) hHeld ?_ | refine jG ?_)
   refine planE ?_
   refine jO 12 none (fun K hK => ?_)
   have HK := am hHeld
   clear hHeld
   refine store_ev (by rfl) rfl _ _ _ rfl p.sb (node.toNat * 4) 127 #[.string (S dd), .string (S c2), .string (S oo), .int .i64 1] (sdsV sides) rfl (by rfl) hsb.out (by rw [sdsV_len]; have := HL.out.1; simp; omega) info_side4 (by simp [Value.oneCell']) (fun W7 h7 k7 => ?_)
   have H7 := am h7
   have K7 := am (HK.out.trans (k7.mono (fun i _ e => Or.inl e)))
   have hdb7 := am (k7.blk hdb.out (fun e => hne.out.2.2 e.symm))
   clear h7 k7 HK
   refine hK.out _ _ (K7.out) (fun hHeld => ?_)
   clear hK K
   refine plan_ [.p 13 82] ?_
   repeat (first | refine jP ?_ | refine jW (hF := by first | exact nfg.out | exact nfs.out) hHeld ?_ | refine jG ?_)
   refine planE ?_
   refine jO 14 none (fun K hK => ?_)
   have y0 := done_at hdb7.out node.toNat HL.out.2
   have yf := blk_frozen hdb7.out node.toNat
   refine skip_ (w1 := W7.setCell ⟨p.db, node.toNat, none⟩ (.bool true)) (by rfl) rfl (by go_simp; try rfl) ?_
   refine hK.out _ _ (K7.out.set_ (.inl (.inr rfl)) _) (fun hHeld => ?_)
   clear hK K
   refine done_ (by kernel_rfl) ?_
   have KX := am (K7.out.set_ (p := ⟨p.db, node.toNat, none⟩) (.inl (.inr rfl)) (.bool true))
   clear Z gg y0 yf
   go_end0
   refine ⟨rfl, ⟨KX.out.blk (hHH.out.below HB.out).hw nfg.out, ?_, blk_put hdb7.out _ _ (bools_set _ _ _), (hHH.out.hB.trans (HB.out.mono hHH.out.hB.size)).trans (KX.out.below (Nat.le_trans hHH.out.hB.size HB.out.size) (fun i hi e => e.elim (fun e => by have := hHH.out.h0.gs; omega) (fun e => by have := hHH.out.h0.gd; omega))), hHH.out.h0⟩, (Kp.of HB.out).trans KX.out⟩
   rw [Below.heap_setCell _ _ _ _ hne.out.2.2, H7.out]
   exact congrArg (fun l : List Value => some (Obj.cells l.toArray 127 (0, 0))) (sdsV_set sides node.toNat ⟨dd, c2, oo, 1⟩ HL.out.1)
 ·obtain rfl : dd = c1 := by have := HD.out; rw [if_neg hf.2] at this; exact this.symm
  have HO2 := am (show (if st = 0 then [] else laneL true dd c2) = oo by have := HO.out; simpa [hf.1] using this)
  have hf2 : (far == 1) = false := by simpa using hf.2
  have hf3 : decide (1 < far) = true := by simpa using hf.1
  clear HD HO hfar hf
  have HO := HO2
  clear HO2
  go_enter Tryz.func101, Tryz.ntmps101
  go_upto_region 4 with (first
   | (go_at_call 127; (with_reducible refine (K1 _ (hHH.out.below HB.out)).mono ?_); rintro e W1 ⟨rfl, hb⟩; replace HB := am (b_tr HB.out hb); clear hb)
   | (go_at_call 127; (with_reducible refine (K2 _ (hHH.out.below HB.out)).mono ?_); rintro e W2 ⟨rfl, hb⟩; replace HB := am (b_tr HB.out hb); clear hb))
  clear K1 K2
  obtain ⟨q0, q1, q2, q3⟩ := QQ.out
  clear QQ
  have HG := am (blk_new W2 (.cells #[.string (S dd), .string (S c2), .string ⟨#[]⟩, .int .i64 far] 127))
  have n2 := am (below_alloc HB.out (.cells #[.string (S dd), .string (S c2), .string ⟨#[]⟩, .int .i64 far] 127))
  have HSG := am HB.out.size
  clear HB
  have HB := n2
  clear n2
  generalize W2.alloc (.cells #[.string (S dd), .string (S c2), .string ⟨#[]⟩, .int .i64 far] 127) = W5 at *
  generalize W2.heap.size = sg at *
  have Z := wv_cells (hHH.out.below HB.out)
  have zs := AS2.out _ (hHH.out.below HB.out)
  have zd := AV2.out _ (hHH.out.below HB.out)
  rw [HAs.out, HAv.out] at Z
  have gg := cells4 HG.out
  rcases hst0.out with ⟨hs1, hs3⟩ | ⟨hs1, hs3⟩
  ·go_wp2
   have ho := HO.out
   rw [if_pos hs1.out] at ho
   have n2 := am (show W5.heap[sg]? = some (.cells #[.string (S dd), .string (S c2), .string (S oo), .int .i64 far] 127 (0, 0)) by rw [← ho]; exact HG.out)
   clear HG
   have HG := n2
   clear n2 ho
   obtain ⟨W8, e8⟩ : ∃ W8, W8 = W5 := ⟨_, rfl⟩
   subst e8
   clear Z zs zd gg
   have Z := wv_cells (hHH.out.below HB.out)
   have gg := cells4 HG.out
   have hsb := am (hHH.out.below HB.out).hs
   have hdb := am (hHH.out.below HB.out).hd
   have nfg : Aside0 (¬ F2 p p.g) := ⟨fun e => e.elim hne.out.1 hne.out.2.1⟩
   have nfs : Aside0 (¬ F2 p sg) := ⟨fun e => e.elim (fun e => by have := hlt.out.2.1; have := HSG.out; omega) (fun e => by have := hlt.out.2.2; have := HSG.out; omega)⟩
   go_wp2
   refine startB (n := 15) (F := F2 p) (ds := []) (by kernel_rfl) rfl (fun hHeld => ?_)
   refine plan_ [.p 0 70, .p 1 71, .p 2 72, .t 3 73, .p 4 74, .p 5 75, .p 6 76, .p 7 77, .t 8 78, .p 9 79, .t 10 80, .p 11 81] ?_
   repeat (first | refine jP ?_ | refine jW (hF := by first | exact nfg.out | exact nfs.out) hHeld ?_ | refine jG ?_)
   refine planE ?_
   refine jO 12 none (fun K hK => ?_)
   have HK := am hHeld
   clear hHeld
   refine store_ev (by rfl) rfl _ _ _ rfl p.sb (node.toNat * 4) 127 #[.string (S dd), .string (S c2), .string (S oo), .int .i64 far] (sdsV sides) rfl (by rfl) hsb.out (by rw [sdsV_len]; have := HL.out.1; simp; omega) info_side4 (by simp [Value.oneCell']) (fun W7 h7 k7 => ?_)
   have H7 := am h7
   have K7 := am (HK.out.trans (k7.mono (fun i _ e => Or.inl e)))
   have hdb7 := am (k7.blk hdb.out (fun e => hne.out.2.2 e.symm))
   clear h7 k7 HK
   refine hK.out _ _ (K7.out) (fun hHeld => ?_)
   clear hK K
   refine plan_ [.p 13 82] ?_
   repeat (first | refine jP ?_ | refine jW (hF := by first | exact nfg.out | exact nfs.out) hHeld ?_ | refine jG ?_)
   refine planE ?_
   refine jO 14 none (fun K hK => ?_)
   have y0 := done_at hdb7.out node.toNat HL.out.2
   have yf := blk_frozen hdb7.out node.toNat
   refine skip_ (w1 := W7.setCell ⟨p.db, node.toNat, none⟩ (.bool true)) (by rfl) rfl (by go_simp; try rfl) ?_
   refine hK.out _ _ (K7.out.set_ (.inl (.inr rfl)) _) (fun hHeld => ?_)
   clear hK K
   refine done_ (by kernel_rfl) ?_
   have KX := am (K7.out.set_ (p := ⟨p.db, node.toNat, none⟩) (.inl (.inr rfl)) (.bool true))
   clear Z gg y0 yf
   go_end0
   refine ⟨rfl, ⟨KX.out.blk (hHH.out.below HB.out).hw nfg.out, ?_, blk_put hdb7.out _ _ (bools_set _ _ _), (hHH.out.hB.trans (HB.out.mono hHH.out.hB.size)).trans (KX.out.below (Nat.le_trans hHH.out.hB.size HB.out.size) (fun i hi e => e.elim (fun e => by have := hHH.out.h0.gs; omega) (fun e => by have := hHH.out.h0.gd; omega))), hHH.out.h0⟩, (Kp.of HB.out).trans KX.out⟩
   rw [Below.heap_setCell _ _ _ _ hne.out.2.2, H7.out]
   exact congrArg (fun l : List Value => some (Obj.cells l.toArray 127 (0, 0))) (sdsV_set sides node.toNat ⟨dd, c2, oo, far⟩ HL.out.1)
  ·go_wp2
   have HN := am (Below.refl W5.heap.size W5)
   have HO2 := am (show laneL true dd c2 = oo by have ho := HO.out; rwa [if_neg hs1.out] at ho)
   refine startB (n := 21) (F := fun _ => False) (ds := [20]) (by kernel_rfl) rfl (fun hHeld => ?_)
   refine plan_ [.p 0 50, .p 1 51, .p 2 52, .g 3 53, .g 4 54, .g 5 55, .g 6 56, .g 7 57, .g 8 58, .g 9 59, .g 10 60, .g 11 61, .g 12 62, .p 13 63, .p 14 64, .t 15 65, .p 16 66, .t 17 67] ?_
   repeat (first | refine jP ?_ | refine jW hHeld ?_ | refine jG ?_)
   refine planE ?_
   refine jO 18 (some 68) (fun K hK => ?_)
   refine kC Tryz.func129 #[.bool true, .string (S dd), .string (S c2)] ?_
   refine (KL.out _ _).mono ?_
   rintro e W6 ⟨rfl, hb⟩
   rw [laneOut_S, HO2.out]
   replace HN := am (b_tr (by first | exact HN.out | exact below_drew HN.out) hb)
   clear hb
   refine ⟨_, rfl, ?_⟩
   refine hK.out _ _ (Kp.of HN.out) (fun hHeld => ?_)
   clear hK K
   refine jM 68 ?_
   refine plan_ [.p 19 69] ?_
   repeat (first | refine jP ?_ | refine jW hHeld ?_ | refine jG ?_)
   refine planE ?_
   refine jL 20 none (fun K hK => ?_)
   have yy := cells4 (blk_below HG.out HN.out)
   have yf := blk_frozen (blk_below HG.out HN.out) 2
   refine skip_ (w1 := W6.setCell ⟨sg, 2, none⟩ (.string (S oo))) (by rfl) rfl (by go_simp; try rfl) ?_
   refine hK.out _ _ ?_
   clear hK K
   refine done_ (by kernel_rfl) ?_
   have n1 := am (((HB.out.trans (HN.out.mono HB.out.size))).setCell HSG.out (.string (S oo)) (p := ⟨sg, 2, none⟩))
   have n2 := am (blk_put (blk_below HG.out HN.out) 2 (.string (S oo)) (cs' := #[.string (S dd), .string (S c2), .string (S oo), .int .i64 far]) rfl)
   clear HB HG HN Z zs zd gg
   have HB := n1
   have HG := n2
   clear n1 n2
   generalize W6.setCell ⟨sg, 2, none⟩ (.string (S oo)) = W8 at *
   have Z := wv_cells (hHH.out.below HB.out)
   have gg := cells4 HG.out
   have hsb := am (hHH.out.below HB.out).hs
   have hdb := am (hHH.out.below HB.out).hd
   have nfg : Aside0 (¬ F2 p p.g) := ⟨fun e => e.elim hne.out.1 hne.out.2.1⟩
   have nfs : Aside0 (¬ F2 p sg) := ⟨fun e => e.elim (fun e => by have := hlt.out.2.1; have := HSG.out; omega) (fun e => by have := hlt.out.2.2; have := HSG.out; omega)⟩
   go_wp2
   refine startB (n := 15) (F := F2 p) (ds := []) (by kernel_rfl) rfl (fun hHeld => ?_)
   refine plan_ [.p 0 70, .p 1 71, .p 2 72, .t 3 73, .p 4 74, .p 5 75, .p 6 76, .p 7 77, .t 8 78, .p 9 79, .t 10 80, .p 11 81] ?_
   repeat (first | refine jP ?_ | refine jW (hF := by first | exact nfg.out | exact nfs.out) hHeld ?_ | refine jG ?_)
   refine planE ?_
   refine jO 12 none (fun K hK => ?_)
   have HK := am hHeld
   clear hHeld
   refine store_ev (by rfl) rfl _ _ _ rfl p.sb (node.toNat * 4) 127 #[.string (S dd), .string (S c2), .string (S oo), .int .i64 far] (sdsV sides) rfl (by rfl) hsb.out (by rw [sdsV_len]; have := HL.out.1; simp; omega) info_side4 (by simp [Value.oneCell']) (fun W7 h7 k7 => ?_)
   have H7 := am h7
   have K7 := am (HK.out.trans (k7.mono (fun i _ e => Or.inl e)))
   have hdb7 := am (k7.blk hdb.out (fun e => hne.out.2.2 e.symm))
   clear h7 k7 HK
   refine hK.out _ _ (K7.out) (fun hHeld => ?_)
   clear hK K
   refine plan_ [.p 13 82] ?_
   repeat (first | refine jP ?_ | refine jW (hF := by first | exact nfg.out | exact nfs.out) hHeld ?_ | refine jG ?_)
   refine planE ?_
   refine jO 14 none (fun K hK => ?_)
   have y0 := done_at hdb7.out node.toNat HL.out.2
   have yf := blk_frozen hdb7.out node.toNat
   refine skip_ (w1 := W7.setCell ⟨p.db, node.toNat, none⟩ (.bool true)) (by rfl) rfl (by go_simp; try rfl) ?_
   refine hK.out _ _ (K7.out.set_ (.inl (.inr rfl)) _) (fun hHeld => ?_)
   clear hK K
   refine done_ (by kernel_rfl) ?_
   have KX := am (K7.out.set_ (p := ⟨p.db, node.toNat, none⟩) (.inl (.inr rfl)) (.bool true))
   clear Z gg y0 yf
   go_end0
   refine ⟨rfl, ⟨KX.out.blk (hHH.out.below HB.out).hw nfg.out, ?_, blk_put hdb7.out _ _ (bools_set _ _ _), (hHH.out.hB.trans (HB.out.mono hHH.out.hB.size)).trans (KX.out.below (Nat.le_trans hHH.out.hB.size HB.out.size) (fun i hi e => e.elim (fun e => by have := hHH.out.h0.gs; omega) (fun e => by have := hHH.out.h0.gd; omega))), hHH.out.h0⟩, (Kp.of HB.out).trans KX.out⟩
   rw [Below.heap_setCell _ _ _ _ hne.out.2.2, H7.out]
   exact congrArg (fun l : List Value => some (Obj.cells l.toArray 127 (0, 0))) (sdsV_set sides node.toNat ⟨dd, c2, oo, far⟩ HL.out.1)
end Go.Proofs.YtgcgglmmfgmaoaaGreat.PK
end
section
namespace Go.Proofs.YtgcgglmmfgmaoaaGreat.PK
open Go Go.RowKit Go.Proofs.YtgcgglmmfgmaoaaGreatW.PrintWords Go.Proofs.YtgcgglmmfgmaoaaGreatW.PrintLast Go.Proofs.YtgcgglmmfgmaoaaGreatW.PrintMore
attribute [local go_sem] max2_int min2_int max_two min_two
theorem mem_ow {l : List Int} {x : Int} : l.contains x = decide (x ∈ l) := by
 rw [Bool.eq_iff_iff]; simp
theorem wayF_in (n last dir : Int) (ow : List Int) (k : Nat) (d : Int) (h : (last + dir * d) % n ∈ ow) : wayF n last dir ow (k + 1) d = wayF n last dir ow k (d + 1) := by
 rw [wayF, mem_ow, decide_eq_true h, if_pos rfl]
theorem wayF_out (n last dir : Int) (ow : List Int) (k : Nat) (d : Int) (h : ¬ (last + dir * d) % n ∈ ow) : wayF n last dir ow (k + 1) d = (last + dir * d) % n :: wayF n last dir ow k (d + 1) := by
 rw [wayF, mem_ow, decide_eq_false h, if_neg (by simp)]
theorem ring_Way_up (N : Nat) (ow : List Int) (h6 : 6 ≤ N) (h12 : N ≤ 12) (hne : ow.length ≠ 0) (hol : ow.length ≤ 1000) (hb : ∀ x ∈ ow, 0 ≤ x ∧ x < (N : Int)) (A : Option Addr) (m : Nat) (w : World) (hr : Kd.C (Kd.int .i64) w A ow.length ow) (hm : ow.length ≤ m) :
  Calls Tryz.prog 100 #[.int .i64 (N : Int), .slice A ow.length m, .int .i64 (1)] w fun e w' => ∃ v : Value, e = .returned v ∧ Kd.R (Kd.int .i64) 3 w' w.heap.size (fun _ => True) v (wayL N ow (1)) ∧ Below w.heap.size w w' := by
 have hm0 : 0 ≤ rd ow 0 ∧ rd ow 0 < N := hb _ (rd_mem (by omega) (by omega))
 have hm1 : 0 ≤ rd ow ((ow.length : Int) - 1) ∧ rd ow ((ow.length : Int) - 1) < N := hb _ (rd_mem (by omega) (by omega))
 obtain ⟨ad, e, hx0⟩ := Kd.at_int hr (0 : Int) (by omega) (by omega)
 subst e
 obtain ⟨ad', e, hx1⟩ := Kd.at_int hr ((ow.length : Int) - 1) (by omega) (by omega)
 obtain rfl : ad' = ad := (Option.some.inj e).symm
 clear e
 rw [show ((ow.length : Int) - 1).toNat = ow.length - 1 by omega] at hx1
 replace hx0 : w.cell? ad' = some (.int .i64 (rd ow 0)) := by simpa [Addr.add] using hx0
 have d0 : ((ow.length : Int) == 0) = false := beq_eq_false_iff_ne.2 (by omega)
 have d6 : decide ((N : Int) < 6) = false := decide_eq_false (by omega)
 have d12 : decide (12 < (N : Int)) = false := decide_eq_false (by omega)
 have d6n : decide (N < 6) = false := decide_eq_false (by omega)
 have d12n : decide (12 < N) = false := decide_eq_false (by omega)
 have HR := am hr
 have HM := am hm
 have HW : Aside0 (wayL N ow (1) = wayF N (rd ow ((ow.length : Int) - 1)) (1) ow (N - 1) 1) := ⟨by
  unfold wayL
  rw [if_neg (by omega)]
  rw [show lastOf ow (1) = rd ow ((ow.length : Int) - 1) by
   unfold lastOf
   rcases ow with _ | ⟨x, l⟩
   ·exact absurd rfl hne
   ·simp [rd, List.getLastD, List.getD_eq_getElem?_getD, List.getLast_eq_getElem]]
  rfl⟩
 have p0 : (0 : Int) < (ow.length : Int) := by omega
 have p1 : 0 < ow.length := by omega
 have p2 : (0 : Int) ≤ (ow.length : Int) - 1 := by omega
 have p3 : (ow.length : Int) - 1 < (ow.length : Int) := by omega
 have p4 : ow.length - 1 < ow.length := by omega
 generalize hq0 : rd ow 0 = q0 at *
 generalize hq1 : rd ow ((ow.length : Int) - 1) = q1 at *
 have HOL := am hol
 clear hq0 hq1 hr hb hne hm
 go_enter Tryz.func100, Tryz.ntmps100
 go_wp2
 have HB0 := am (b_al w (.cells #[.slice none 0 0] 208))
 have HG := am (blk_new w (.cells #[.slice none 0 0] 208))
 generalize hg : w.heap.size = g at *
 have HGW := am hg
 clear hg
 go_loopw [10] (fun i w' => ∃ (d : Nat) (acc : List Int), i = .int .i64 d ∧ 1 ≤ d ∧ d ≤ N ∧ Aside0 (acc.length ≤ d) ∧ Aside0 (acc ++ wayF N q1 (1) ow (N - d) d = wayF N q1 (1) ow (N - 1) 1) ∧ Aside0 (∃ v, w'.heap[g]? = some (.cells #[v] 208 (0, 0)) ∧ Kd.R (Kd.int .i64) 3 w' g (fun _ => True) v acc) ∧ Aside0 (Below g w w')) (fun i _ => N - (intOf i).toNat)
 case atStart => exact ⟨1, [], rfl, by omega, by omega, ⟨by simp⟩, ⟨rfl⟩, ⟨_, HG.out, Kd.R_nil _ _ _ _ _⟩, HB0⟩
 case round =>
  clear HG HB0
  obtain ⟨d, acc, rfl, hd1, hdN, hal, hacc, hR, hB⟩ := hrel
  by_cases hlt : d < N
  ·have KA := fun W => ring_At (N : Int) q1 ((d : Int)) (by omega) (by omega) (by omega) (by omega) (by omega) (by omega) W
   have hi : (q1 + ((d : Int))) % (N : Int) = (q1 + (1) * (d : Int)) % (N : Int) := by congr 1; omega
   rw [hi] at KA
   have hF1 := wayF_in N q1 (1) ow (N - (d + 1)) d
   have hF2 := wayF_out N q1 (1) ow (N - (d + 1)) d
   rw [show N - (d + 1) + 1 = N - d by omega] at hF1 hF2
   clear hi
   generalize (q1 + (1) * (d : Int)) % (N : Int) = x at *
   have hnx : ((d : Int) + 1) = ((d + 1 : Nat) : Int) := by omega
   rw [hnx] at hF1 hF2
   clear hnx
   have KC := fun W (hb : Below w.heap.size w W) => contains_calls (some ad') m ow x (by have := HOL.out; omega) W (Kd.C_below HR.out hb) HM.out
   by_cases hx : x ∈ ow
   ·rw [decide_eq_true hx] at KC
    have hF := hF1 hx
    have hacc2 : acc ++ wayF N q1 (1) ow (N - (d + 1)) ((d + 1 : Nat) : Int) = wayF N q1 (1) ow (N - 1) 1 := by rw [← hF]; exact hacc.out
    have HA2 := am hacc2
    clear hF1 hF2 hF hacc2 hx
    go_wp2_with (first
     | (go_at_call 126; with_reducible refine (KA _).mono ?_; rintro e W ⟨rfl, rfl⟩)
     | (go_at_call 76; with_reducible refine (KC _ (by have := hB.out; rw [← HGW.out] at this; exact this)).mono ?_; rintro e W ⟨rfl, hdr⟩; have HD := am hdr; clear hdr))
    go_roundw
    case rel => exact ⟨d + 1, acc, by simp, by omega, by omega, ⟨by have := hal.out; omega⟩, HA2, ⟨by obtain ⟨v, h1, h2⟩ := hR.out; exact ⟨v, blk_below h1 HD.out.below, Kd.R_below h2 HD.out.below⟩⟩, ⟨by have h1 := hB.out; rw [← HGW.out] at h1 ⊢; exact b_tr h1 HD.out.below⟩⟩
    case measure => simp [intOf]; omega
   ·rw [decide_eq_false hx] at KC
    have hF := hF2 hx
    have hacc2 : (acc ++ [x]) ++ wayF N q1 (1) ow (N - (d + 1)) ((d + 1 : Nat) : Int) = wayF N q1 (1) ow (N - 1) 1 := by rw [List.append_assoc, List.singleton_append, ← hF]; exact hacc.out
    have HA2 := am hacc2
    clear hF1 hF2 hF hacc2 hx
    go_wp2_with (first
     | (go_at_call 126; with_reducible refine (KA _).mono ?_; rintro e W ⟨rfl, rfl⟩)
     | (go_at_call 76; with_reducible refine (KC _ (by have := hB.out; rw [← HGW.out] at this; exact this)).mono ?_; rintro e W ⟨rfl, hdr⟩; have HD := am hdr; clear hdr)
     | (go_at_call 125; obtain ⟨v9, hg9, hr9⟩ := hR.out; refine (ring_put w _ g v9 acc [x] _ 1 (blk_alloc (blk_below hg9 HD.out.below) _) (Nat.le_of_eq HGW.out) (by rw [HGW.out]; exact Kd.R_alloc (Kd.R_below hr9 HD.out.below) _) ((b_tr (by have h1 := hB.out; rw [← HGW.out] at h1; exact h1) HD.out.below).alloc (by have h1 := (b_tr (by have h1 := hB.out; rw [← HGW.out] at h1; exact h1) HD.out.below).size; exact h1) _) (C_int1 _ _ x) (by have := hal.out; simp; omega)).mono ?_; rintro e W9 ⟨rfl, v8, hg8, hr8, hb8⟩; have G8 := am hg8; have R8 := am hr8; have B8 := am hb8; clear hg8 hr8 hb8 hg9 hr9))
    go_roundw
    case rel => exact ⟨d + 1, acc ++ [x], by simp, by omega, by omega, ⟨by have := hal.out; simp; omega⟩, HA2, ⟨v8, G8.out, by have := R8.out; rw [HGW.out] at this; exact this⟩, ⟨by have h1 := B8.out; rw [← HGW.out]; exact h1⟩⟩
    case measure => simp [intOf]; omega
  ·obtain rfl : d = N := by omega
   obtain ⟨v9, hg9, hr9⟩ := hR.out
   obtain ⟨A9, c9, rfl, hl9, hc9⟩ := Kd.R_reads hr9
   have hx9 : wr.cell? ⟨g, 0, none⟩ = some (.slice A9 acc.length c9) := (blk_cell hg9 0).trans rfl
   have he : acc = wayL d ow (1) := by
    rw [HW.out, ← hacc.out, Nat.sub_self, wayF, List.append_nil]
   have HE := am he
   have hcl := slices_Clone_int_int.calls A9 c9 acc acc wr hc9 hl9 (by unfold slices_Clone_int_int.f; rw [if_neg (by have := hal.out; omega)])
   have HC := am hcl
   clear hcl he hc9 hg9 hr9
   go_wp2_with (first
    | (go_at_call 38; with_reducible refine (HC.out).mono ?_; rintro e W9 ⟨v7, rfl, hr7, hb7⟩; obtain ⟨A7, c7, rfl⟩ := Kd.R_slice hr7; have R7 := am hr7; have B7 := am hb7; clear hr7 hb7))
   go_ret
   have hB2 := hB.out
   rw [← HGW.out] at hB2
   refine ⟨_, rfl, ?_, b_tr hB2 B7.out⟩
   rw [← HE.out]
   exact Kd.R_lower R7.out hB2.size
theorem ring_Way_down (N : Nat) (ow : List Int) (h6 : 6 ≤ N) (h12 : N ≤ 12) (hne : ow.length ≠ 0) (hol : ow.length ≤ 1000) (hb : ∀ x ∈ ow, 0 ≤ x ∧ x < (N : Int)) (A : Option Addr) (m : Nat) (w : World) (hr : Kd.C (Kd.int .i64) w A ow.length ow) (hm : ow.length ≤ m) :
  Calls Tryz.prog 100 #[.int .i64 (N : Int), .slice A ow.length m, .int .i64 (-1)] w fun e w' => ∃ v : Value, e = .returned v ∧ Kd.R (Kd.int .i64) 3 w' w.heap.size (fun _ => True) v (wayL N ow (-1)) ∧ Below w.heap.size w w' := by
 have hm0 : 0 ≤ rd ow 0 ∧ rd ow 0 < N := hb _ (rd_mem (by omega) (by omega))
 have hm1 : 0 ≤ rd ow ((ow.length : Int) - 1) ∧ rd ow ((ow.length : Int) - 1) < N := hb _ (rd_mem (by omega) (by omega))
 obtain ⟨ad, e, hx0⟩ := Kd.at_int hr (0 : Int) (by omega) (by omega)
 subst e
 obtain ⟨ad', e, hx1⟩ := Kd.at_int hr ((ow.length : Int) - 1) (by omega) (by omega)
 obtain rfl : ad' = ad := (Option.some.inj e).symm
 clear e
 rw [show ((ow.length : Int) - 1).toNat = ow.length - 1 by omega] at hx1
 replace hx0 : w.cell? ad' = some (.int .i64 (rd ow 0)) := by simpa [Addr.add] using hx0
 have d0 : ((ow.length : Int) == 0) = false := beq_eq_false_iff_ne.2 (by omega)
 have d6 : decide ((N : Int) < 6) = false := decide_eq_false (by omega)
 have d12 : decide (12 < (N : Int)) = false := decide_eq_false (by omega)
 have d6n : decide (N < 6) = false := decide_eq_false (by omega)
 have d12n : decide (12 < N) = false := decide_eq_false (by omega)
 have HR := am hr
 have HM := am hm
 have HW : Aside0 (wayL N ow (-1) = wayF N (rd ow (0)) (-1) ow (N - 1) 1) := ⟨by
  unfold wayL
  rw [if_neg (by omega)]
  rw [show lastOf ow (-1) = rd ow (0) by
   unfold lastOf
   rcases ow with _ | ⟨x, l⟩
   ·exact absurd rfl hne
   ·simp [rd]]
  rfl⟩
 have p0 : (0 : Int) < (ow.length : Int) := by omega
 have p1 : 0 < ow.length := by omega
 have p2 : (0 : Int) ≤ (ow.length : Int) - 1 := by omega
 have p3 : (ow.length : Int) - 1 < (ow.length : Int) := by omega
 have p4 : ow.length - 1 < ow.length := by omega
 generalize hq0 : rd ow 0 = q0 at *
 generalize hq1 : rd ow ((ow.length : Int) - 1) = q1 at *
 have HOL := am hol
 clear hq0 hq1 hr hb hne hm
 go_enter Tryz.func100, Tryz.ntmps100
 go_wp2
 have HB0 := am (b_al w (.cells #[.slice none 0 0] 208))
 have HG := am (blk_new w (.cells #[.slice none 0 0] 208))
 generalize hg : w.heap.size = g at *
 have HGW := am hg
 clear hg
 go_loopw [10] (fun i w' => ∃ (d : Nat) (acc : List Int), i = .int .i64 d ∧ 1 ≤ d ∧ d ≤ N ∧ Aside0 (acc.length ≤ d) ∧ Aside0 (acc ++ wayF N q0 (-1) ow (N - d) d = wayF N q0 (-1) ow (N - 1) 1) ∧ Aside0 (∃ v, w'.heap[g]? = some (.cells #[v] 208 (0, 0)) ∧ Kd.R (Kd.int .i64) 3 w' g (fun _ => True) v acc) ∧ Aside0 (Below g w w')) (fun i _ => N - (intOf i).toNat)
 case atStart => exact ⟨1, [], rfl, by omega, by omega, ⟨by simp⟩, ⟨rfl⟩, ⟨_, HG.out, Kd.R_nil _ _ _ _ _⟩, HB0⟩
 case round =>
  clear HG HB0
  obtain ⟨d, acc, rfl, hd1, hdN, hal, hacc, hR, hB⟩ := hrel
  by_cases hlt : d < N
  ·have KA := fun W => ring_At (N : Int) q0 (-(d : Int)) (by omega) (by omega) (by omega) (by omega) (by omega) (by omega) W
   have hi : (q0 + (-(d : Int))) % (N : Int) = (q0 + (-1) * (d : Int)) % (N : Int) := by congr 1; omega
   rw [hi] at KA
   have hF1 := wayF_in N q0 (-1) ow (N - (d + 1)) d
   have hF2 := wayF_out N q0 (-1) ow (N - (d + 1)) d
   rw [show N - (d + 1) + 1 = N - d by omega] at hF1 hF2
   clear hi
   generalize (q0 + (-1) * (d : Int)) % (N : Int) = x at *
   have hnx : ((d : Int) + 1) = ((d + 1 : Nat) : Int) := by omega
   rw [hnx] at hF1 hF2
   clear hnx
   have KC := fun W (hb : Below w.heap.size w W) => contains_calls (some ad') m ow x (by have := HOL.out; omega) W (Kd.C_below HR.out hb) HM.out
   by_cases hx : x ∈ ow
   ·rw [decide_eq_true hx] at KC
    have hF := hF1 hx
    have hacc2 : acc ++ wayF N q0 (-1) ow (N - (d + 1)) ((d + 1 : Nat) : Int) = wayF N q0 (-1) ow (N - 1) 1 := by rw [← hF]; exact hacc.out
    have HA2 := am hacc2
    clear hF1 hF2 hF hacc2 hx
    go_wp2_with (first
     | (go_at_call 126; with_reducible refine (KA _).mono ?_; rintro e W ⟨rfl, rfl⟩)
     | (go_at_call 76; with_reducible refine (KC _ (by have := hB.out; rw [← HGW.out] at this; exact this)).mono ?_; rintro e W ⟨rfl, hdr⟩; have HD := am hdr; clear hdr))
    go_roundw
    case rel => exact ⟨d + 1, acc, by simp, by omega, by omega, ⟨by have := hal.out; omega⟩, HA2, ⟨by obtain ⟨v, h1, h2⟩ := hR.out; exact ⟨v, blk_below h1 HD.out.below, Kd.R_below h2 HD.out.below⟩⟩, ⟨by have h1 := hB.out; rw [← HGW.out] at h1 ⊢; exact b_tr h1 HD.out.below⟩⟩
    case measure => simp [intOf]; omega
   ·rw [decide_eq_false hx] at KC
    have hF := hF2 hx
    have hacc2 : (acc ++ [x]) ++ wayF N q0 (-1) ow (N - (d + 1)) ((d + 1 : Nat) : Int) = wayF N q0 (-1) ow (N - 1) 1 := by rw [List.append_assoc, List.singleton_append, ← hF]; exact hacc.out
    have HA2 := am hacc2
    clear hF1 hF2 hF hacc2 hx
    go_wp2_with (first
     | (go_at_call 126; with_reducible refine (KA _).mono ?_; rintro e W ⟨rfl, rfl⟩)
     | (go_at_call 76; with_reducible refine (KC _ (by have := hB.out; rw [← HGW.out] at this; exact this)).mono ?_; rintro e W ⟨rfl, hdr⟩; have HD := am hdr; clear hdr)
     | (go_at_call 125; obtain ⟨v9, hg9, hr9⟩ := hR.out; refine (ring_put w _ g v9 acc [x] _ 1 (blk_alloc (blk_below hg9 HD.out.below) _) (Nat.le_of_eq HGW.out) (by rw [HGW.out]; exact Kd.R_alloc (Kd.R_below hr9 HD.out.below) _) ((b_tr (by have h1 := hB.out; rw [← HGW.out] at h1; exact h1) HD.out.below).alloc (by have h1 := (b_tr (by have h1 := hB.out; rw [← HGW.out] at h1; exact h1) HD.out.below).size; exact h1) _) (C_int1 _ _ x) (by have := hal.out; simp; omega)).mono ?_; rintro e W9 ⟨rfl, v8, hg8, hr8, hb8⟩; have G8 := am hg8; have R8 := am hr8; have B8 := am hb8; clear hg8 hr8 hb8 hg9 hr9))
    go_roundw
    case rel => exact ⟨d + 1, acc ++ [x], by simp, by omega, by omega, ⟨by have := hal.out; simp; omega⟩, HA2, ⟨v8, G8.out, by have := R8.out; rw [HGW.out] at this; exact this⟩, ⟨by have h1 := B8.out; rw [← HGW.out]; exact h1⟩⟩
    case measure => simp [intOf]; omega
  ·obtain rfl : d = N := by omega
   obtain ⟨v9, hg9, hr9⟩ := hR.out
   obtain ⟨A9, c9, rfl, hl9, hc9⟩ := Kd.R_reads hr9
   have hx9 : wr.cell? ⟨g, 0, none⟩ = some (.slice A9 acc.length c9) := (blk_cell hg9 0).trans rfl
   have he : acc = wayL d ow (-1) := by
    rw [HW.out, ← hacc.out, Nat.sub_self, wayF, List.append_nil]
   have HE := am he
   have hcl := slices_Clone_int_int.calls A9 c9 acc acc wr hc9 hl9 (by unfold slices_Clone_int_int.f; rw [if_neg (by have := hal.out; omega)])
   have HC := am hcl
   clear hcl he hc9 hg9 hr9
   go_wp2_with (first
    | (go_at_call 38; with_reducible refine (HC.out).mono ?_; rintro e W9 ⟨v7, rfl, hr7, hb7⟩; obtain ⟨A7, c7, rfl⟩ := Kd.R_slice hr7; have R7 := am hr7; have B7 := am hb7; clear hr7 hb7))
   go_ret
   have hB2 := hB.out
   rw [← HGW.out] at hB2
   refine ⟨_, rfl, ?_, b_tr hB2 B7.out⟩
   rw [← HE.out]
   exact Kd.R_lower R7.out hB2.size
end Go.Proofs.YtgcgglmmfgmaoaaGreat.PK
end
section
namespace Go.Proofs.YtgcgglmmfgmaoaaGreat.PK
open Go Go.RowKit Go.Proofs.YtgcgglmmfgmaoaaGreatW.PrintWords Go.Proofs.YtgcgglmmfgmaoaaGreatW.PrintLast Go.Proofs.YtgcgglmmfgmaoaaGreatW.PrintMore
attribute [local go_sem] max2_int min2_int max_two min_two
def sdS (x : Sd) : S127 := ⟨S x.d, S x.s, S x.o, x.far⟩
def WvP.go (p : WvP) : List Int → Int → List Sd → List Bool → List Sd
 | [], _, s, _ => s
 | x :: l, k, s, d => p.go l (k + 1) (s.set x.toNat (p.side s d x (k + 1))) (d.set x.toNat true)
def putO : List Int → List (List UInt8) → List Sd → List Sd
 | x :: l, t :: q, s => putO l q (s.set x.toNat { s.getD x.toNat zSd with o := t })
 | _, _, s => s
def putD : List Int → List Bool → List Bool
 | x :: l, d => putD l (d.set x.toNat true)
 | [], d => d
def WvP.runL (p : WvP) (sends : List (List UInt8)) : List Sd :=
 p.go (wayL p.c.n (p.c.owners p.slot) p.dir) 0 (putO (p.c.owners p.slot) sends (List.replicate p.N zSd)) (putD (p.c.owners p.slot) (List.replicate p.N false))
theorem go_congr {p q : WvP} (h : ∀ s d x f, p.side s d x f = q.side s d x f) : ∀ (l : List Int) (k : Int) (s : List Sd) (d : List Bool), p.go l k s d = q.go l k s d
 | [], _, _, _ => rfl
 | x :: l, k, s, d => by rw [WvP.go, WvP.go, h, go_congr h l]
def OutOK (s : List Sd) : Prop := ∀ x ∈ s, x.o.length ≤ 900
theorem OutOK.set {s : List Sd} (h : OutOK s) (i : Nat) (x : Sd) (hx : x.o.length ≤ 900) : OutOK (s.set i x) := fun y hy => by
 rcases List.mem_or_eq_of_mem_set hy with h1 | h1
 ·exact h y h1
 ·rw [h1]; exact hx
theorem side_ok {p : WvP} (hk : p.KD) (s : List Sd) (d : List Bool) (hs : OutOK s) (x far : Int) : (p.side s d x far).o.length ≤ 900 := by
 show (p.outL s d x far).length ≤ 900
 unfold WvP.outL
 split
 ·simp
 ·refine Nat.le_trans (laneL_le _ _ _) ?_
  unfold WvP.dirL
  have := come_len hk s d hs x 1
  split
  ·exact Nat.le_trans (guardL_le _ _ _ _) this
  ·exact this
theorem putO_ok : ∀ (l : List Int) (q : List (List UInt8)) (s : List Sd), OutOK s → (∀ t ∈ q, t.length ≤ 900) → OutOK (putO l q s)
 | [], _, s, h, _ => h
 | _ :: _, [], s, h, _ => h
 | x :: l, t :: q, s, h, hq => putO_ok l q _ (h.set _ _ (hq t (by simp))) (fun u hu => hq u (by simp [hu]))
theorem putO_len : ∀ (l : List Int) (q : List (List UInt8)) (s : List Sd), (putO l q s).length = s.length
 | [], _, s => rfl
 | _ :: _, [], s => rfl
 | x :: l, t :: q, s => by rw [putO, putO_len l q]; simp
theorem putD_len : ∀ (l : List Int) (s : List Bool), (putD l s).length = s.length
 | [], s => rfl
 | x :: l, s => by rw [putD, putD_len l]; simp
theorem putO_snoc : ∀ (l : List Int) (q : List (List UInt8)) (x : Int) (t : List UInt8) (s : List Sd), l.length = q.length → putO (l ++ [x]) (q ++ [t]) s = (putO l q s).set x.toNat { (putO l q s).getD x.toNat zSd with o := t }
 | [], [], x, t, s, _ => rfl
 | y :: l, u :: q, x, t, s, h => by
  show putO (l ++ [x]) (q ++ [t]) _ = _
  rw [putO_snoc l q x t _ (by simpa using h)]
  rfl
 | [], _ :: _, _, _, _, h => by simp at h
 | _ :: _, [], _, _, _, h => by simp at h
theorem putD_snoc : ∀ (l : List Int) (x : Int) (d : List Bool), putD (l ++ [x]) d = (putD l d).set x.toNat true
 | [], x, d => rfl
 | y :: l, x, d => by
  show putD (l ++ [x]) _ = _
  rw [putD_snoc l x _]
  rfl
theorem owners_range {c : Cf} (hc : c.OK) (s : Int) : ∀ x ∈ c.owners s, 0 ≤ x ∧ x < c.n := by
 intro x hx
 have h6 := hc.n6
 unfold Cf.owners Cf.slots at hx
 split at hx
 ·simp at hx
 ·rename_i h1
  split at hx
  ·simp at hx; omega
  ·split at hx
   ·simp at hx
   ·rename_i h2 h3
    have hm := hc.pr _ (rd_mem (l := c.pairs) (i := s - c.n) (by omega) (by omega))
    have hn := Int.emod_nonneg (rd c.pairs (s - c.n) + 1) (show c.n ≠ 0 by omega)
    have hl := Int.emod_lt_of_pos (rd c.pairs (s - c.n) + 1) (show 0 < c.n by omega)
    simp only [List.mem_cons, List.not_mem_nil, or_false] at hx
    rcases hx with rfl | rfl <;> omega
theorem sdsV_o : ∀ (l : List Sd) (i : Nat) (t : List UInt8), i < l.length → (sdsV l).toArray.setIfInBounds (i * 4 + 2) (.string (S t)) = (sdsV (l.set i { l.getD i zSd with o := t })).toArray
 | [], i, t, h => by simp at h
 | y :: r, 0, t, _ => by simp [sdsV, Sd.cs]
 | y :: r, i + 1, t, h => by
  have := sdsV_o r i t (by simpa using h)
  simp only [List.setIfInBounds_toArray] at this ⊢
  have h2 := congrArg Array.toList this
  simp only at h2
  rw [List.set_cons_succ, sdsV, sdsV]
  rw [List.set_append_right _ _ (by simp [Sd.cs]; omega)]
  rw [show (i + 1) * 4 + 2 - y.cs.length = i * 4 + 2 by simp [Sd.cs]; omega, h2]
  simp
theorem wayF_range (n last dir : Int) (ow : List Int) (hn : 0 < n) : ∀ (k : Nat) (d : Int), ∀ x ∈ wayF n last dir ow k d, 0 ≤ x ∧ x < n
 | 0, _, x, h => by simp [wayF] at h
 | k + 1, d, x, h => by
  unfold wayF at h
  split at h
  ·exact wayF_range n last dir ow hn k _ x h
  ·rcases List.mem_cons.1 h with rfl | h
   ·exact ⟨Int.emod_nonneg _ (by omega), Int.emod_lt_of_pos _ hn⟩
   ·exact wayF_range n last dir ow hn k _ x h
theorem wayL_range (n : Int) (ow : List Int) (dir : Int) (hn : 0 < n) : ∀ x ∈ wayL n ow dir, 0 ≤ x ∧ x < n := by
 intro x hx
 unfold wayL at hx
 split at hx
 ·simp at hx
 ·exact wayF_range _ _ _ _ hn _ _ x hx
theorem sides_C {p : WvP} {w0 W : World} {s : List Sd} {d : List Bool} (h : p.H w0 W s d) (hl : s.length ≤ 1000) : Kd.C k127 W (some ⟨p.sb, 0, none⟩) (s.map sdS).length (s.map sdS) := by
 refine ⟨rfl, by simp; omega, fun _ => ⟨_, rfl, fun j x hj => ?_⟩⟩
 rw [List.getElem?_map] at hj
 obtain ⟨y, hy, rfl⟩ := Option.map_eq_some_iff.1 hj
 have hj' := (List.getElem?_eq_some_iff.1 hy).1
 refine ⟨y.cs, rfl, k127_mk W (sdS y), fun i u hi => ?_⟩
 have hi' : i < 4 := (List.getElem?_eq_some_iff.1 hi).1
 rw [add_plain]
 rw [show k127.sz = 4 from rfl]
 exact side_cell h j i u hj' hi' (by rw [List.getD_eq_getElem?_getD, hy]; exact hi)
theorem WvP.H.apart {p : WvP} {w0 W : World} {s : List Sd} {d : List Bool} (h : p.H w0 W s d) : p.g ≠ p.sb ∧ p.g ≠ p.db ∧ p.sb ≠ p.db := ⟨fun e => by have h1 := h.hw; rw [e, h.hs] at h1; simp at h1, fun e => by have h1 := h.hw; rw [e, h.hd] at h1; simp at h1, fun e => by have h1 := h.hs; rw [e, h.hd] at h1; simp at h1⟩
theorem WvP.H.next {p : WvP} {w0 W W' : World} {s s' : List Sd} {d d' : List Bool} (h : p.H w0 W s d) (hk : Kp (F2 p) W W') (hs : W'.heap[p.sb]? = some (.cells (sdsV s').toArray 127 (0, 0))) (hd : W'.heap[p.db]? = some (.cells (d'.map Value.bool).toArray 4 (0, 0))) : p.H w0 W' s' d' :=
 ⟨hk.blk h.hw (fun e => e.elim h.apart.1 h.apart.2.1), hs, hd, h.hB.trans (hk.below h.hB.size (fun i hi e => e.elim (fun e => by have := h.h0.gs; omega) (fun e => by have := h.h0.gd; omega))), h.h0⟩
theorem WvP.H.rd {p : WvP} {w0 W W' : World} {s : List Sd} {d : List Bool} (h : p.H w0 W s d) (hk : Kp (F2 p) W W') {v : Value} {xs : List Int} (hr : RdT (Kd.int .i64) 3 W v xs) : RdT (Kd.int .i64) 3 W' v xs := by
 refine hr.kp plain_int hk (fun k cells e hc => ?_)
 rcases e with rfl | rfl
 ·rw [h.hs] at hc; simp at hc
 ·rw [h.hd] at hc; simp at hc
theorem RdT.ad {α : Type} {d : Kd α} {T : Nat} {W : World} {A : Option Addr} {m : Nat} {xs : List α} (h : RdT d T W (.slice A xs.length m) xs) (h0 : xs.length ≠ 0) : ∃ ad, A = some ad := by
 obtain ⟨A', m', e, _, hC, _⟩ := h
 injection e with e1 e2 e3
 subst e1
 exact (hC.2.2 (by omega)).imp fun _ hh => hh.1
theorem RdT.int_cell {T : Nat} {W : World} {ad : Addr} {m : Nat} {xs : List Int} (h : RdT (Kd.int .i64) T W (.slice (some ad) xs.length m) xs) (k : Nat) (hk : k < xs.length) : W.cell? (ad.add k) = some (.int .i64 (rd xs k)) := by
 obtain ⟨A', m', e, _, hC, _⟩ := h
 injection e with e1 e2 e3
 obtain ⟨a2, h1, h2⟩ := Kd.at_int hC (k : Int) (by omega) (by omega)
 rw [← e1] at h1
 obtain rfl := Option.some.inj h1
 simpa using h2
theorem RdT.C {α : Type} {d : Kd α} {T : Nat} {W : World} {A : Option Addr} {m : Nat} {xs : List α} (h : RdT d T W (.slice A xs.length m) xs) : Kd.C d W A xs.length xs ∧ xs.length ≤ m := by
 obtain ⟨A', m', e, hm, hC, _⟩ := h
 injection e with e1 e2 e3
 subst e1 e3
 exact ⟨hC, hm⟩
theorem string_cell {W : World} {ad : Addr} {xs : List (List UInt8)} (h : Kd.string.C W (some ad) xs.length (xs.map S)) (k : Nat) (hk : k < xs.length) : W.cell? (ad.add k) = some (.string (S (xs.getD k []))) := by
 obtain ⟨a2, h1, h2⟩ := Kd.at_string h (k : Int) (by omega) (by omega)
 obtain rfl := Option.some.inj h1
 rw [Int.toNat_natCast] at h2
 rw [h2]
 unfold rdOf
 simp [List.getD_eq_getElem?_getD, List.getElem?_eq_getElem hk]
theorem take_rd (l : List Int) (k : Nat) (h : k < l.length) : l.take (k + 1) = l.take k ++ [rd l k] := by
 rw [List.take_succ_eq_append_getElem h]; simp [rd, List.getD_eq_getElem?_getD, List.getElem?_eq_getElem h]
theorem take_gd {α : Type} (l : List α) (z : α) (k : Nat) (h : k < l.length) : l.take (k + 1) = l.take k ++ [l.getD k z] := by
 rw [List.take_succ_eq_append_getElem h]; simp [List.getD_eq_getElem?_getD, List.getElem?_eq_getElem h]
theorem drop_rd (l : List Int) (k : Nat) (h : k < l.length) : l.drop k = rd l k :: l.drop (k + 1) := by
 rw [List.drop_eq_getElem_cons h]; simp [rd, List.getD_eq_getElem?_getD, List.getElem?_eq_getElem h]
theorem info_side9 : (Tryz.prog.info? 127).map (fun i => (i.zero, i.size, i.bytes)) = some (some (.agg #[.string ⟨#[]⟩, .string ⟨#[]⟩, .string ⟨#[]⟩, .int .i64 0]), 4, 56) := by kernel_rfl
theorem info_bool9 : (Tryz.prog.info? 4).map (fun i => (i.zero, i.size, i.bytes)) = some (some (.bool false), 1, 1) := by kernel_rfl
theorem flat_sides (n : Nat) : (List.replicate n [Value.string ⟨#[]⟩, .string ⟨#[]⟩, .string ⟨#[]⟩, .int .i64 0]).flatten = sdsV (List.replicate n zSd) := by
 induction n with
 | zero => rfl
 | succ n ih => rw [List.replicate_succ, List.replicate_succ, List.flatten_cons, sdsV, ih]; rfl
theorem flat_bools (n : Nat) : (List.replicate n [Value.bool false]).flatten = (List.replicate n false).map Value.bool := by
 induction n with
 | zero => rfl
 | succ n ih => rw [List.replicate_succ, List.replicate_succ, List.flatten_cons, List.map_cons, ih]; rfl
theorem spread_Run (q : WvP) (ok : q.OK) (hk : q.KD) (sends : List (List UInt8)) (Ax : Option Addr) (mx : Nat) (hsl : sends.length = (q.c.owners q.slot).length) (hne : (q.c.owners q.slot).length ≠ 0) (hs9 : ∀ t ∈ sends, t.length ≤ 900) (w : World) (hc : q.c.C w q.A q.m) (hf : q.f.C w q.AA q.ma q.AD q.md)
  (hst : Kd.C (Kd.int .i64) w q.As q.states.length q.states ∧ q.states.length ≤ q.ms) (hdv : Kd.C (Kd.int .i64) w q.Av q.devs.length q.devs ∧ q.devs.length ≤ q.mv) (hsn : Kd.C Kd.string w Ax sends.length (sends.map S) ∧ sends.length ≤ mx) :
  Calls Tryz.prog 75 #[q.c.v q.A q.m, q.f.v q.AA q.ma q.AD q.md, .int .i64 q.round, .int .i64 q.slot, .int .i64 q.dir, .slice Ax sends.length mx, .slice q.As q.states.length q.ms, .slice q.Av q.devs.length q.mv] w fun e w' => ∃ v : Value, e = .returned v ∧ Kd.R k127 127 w' w.heap.size (fun _ => True) v ((q.runL sends).map sdS) ∧ Below w.heap.size w w' := by
 have hrange := am (owners_range ok.hc q.slot)
 have KO := am (fun W hW => owners_calls q.c ok.hc q.slot (by have := ok.s0; omega) (by have := ok.s1; omega) q.A q.m W hW)
 have KC := am (fun W hW => by have h := conf_Check q.c q.A q.m (by have := ok.hc.l3; omega) W hW; rw [ok.hc.err] at h; exact h)
 have HC := am hc
 have HF := am hf
 have HST := am hst
 have HDV := am hdv
 have HSN := am hsn
 have OKq := am ok
 have HKq := am hk
 have HSL := am hsl
 have HNE := am hne
 have HS9 := am hs9
 have howl := am (owners_len q.c q.slot)
 unfold WvP.runL
 generalize q.c.owners q.slot = ow at *
 have b1 : ((sends.length : Int) != (ow.length : Int)) = false := by simp [hsl]
 have b2 : ((q.states.length : Int) != q.c.n) = false := by simp [ok.st, ok.hN]
 have b3 : ((q.devs.length : Int) != q.c.n) = false := by simp [ok.dv, ok.hN]
 have hmk1 : ∀ W : World, (Instr.makeSlice 92 (.int .i64 q.c.n) (.int .i64 q.c.n)).run Tryz.prog W = .ok (.slice (some ⟨W.heap.size, 0, none⟩) q.N q.N) (W.alloc (.cells (sdsV (List.replicate q.N zSd)).toArray 127)) := fun W => by
  rw [← flat_sides]
  exact make_run _ _ [.string ⟨#[]⟩, .string ⟨#[]⟩, .string ⟨#[]⟩, .int .i64 0] (.agg #[.string ⟨#[]⟩, .string ⟨#[]⟩, .string ⟨#[]⟩, .int .i64 0]) 56 Tryz.underlying92 info_side9 rfl (by simp) _ _ ok.hN (by have := ok.hc.n12; have := ok.hN; omega) (by omega) W
 have hmk2 : ∀ W : World, (Instr.makeSlice 59 (.int .i64 q.c.n) (.int .i64 q.c.n)).run Tryz.prog W = .ok (.slice (some ⟨W.heap.size, 0, none⟩) q.N q.N) (W.alloc (.cells ((List.replicate q.N false).map Value.bool).toArray 4)) := fun W => by
  rw [← flat_bools]
  exact make_run _ _ [.bool false] (.bool false) 1 Tryz.underlying59 info_bool9 rfl (by simp) _ _ ok.hN (by have := ok.hc.n12; have := ok.hN; omega) (by omega) W
 have hM := am (And.intro hmk1 hmk2)
 clear hc hf hst hdv hsn ok hk hsl hne hs9 hmk1 hmk2
 go_enter Tryz.func75, Tryz.ntmps75
 go_upto_region 1 with (fail)
 have HB := am (b_tr (b_al w (.cells #[.int .i64 q.c.n, .int .i64 q.c.pi, .int .i64 q.c.e, .int .i64 q.c.g, .int .i64 q.c.first, .slice q.A q.c.pairs.length q.m] 24)) (b_al _ (.cells #[.int .i64 q.f.kind, .int .i64 q.f.at_, .int .i64 q.f.frm, .int .i64 q.f.to_, .slice q.AA q.f.acts.length q.ma, .slice q.AD q.f.devs.length q.md] 27)))
 have HCB := am (blk_alloc (blk_new w (.cells #[.int .i64 q.c.n, .int .i64 q.c.pi, .int .i64 q.c.e, .int .i64 q.c.g, .int .i64 q.c.first, .slice q.A q.c.pairs.length q.m] 24)) (.cells #[.int .i64 q.f.kind, .int .i64 q.f.at_, .int .i64 q.f.frm, .int .i64 q.f.to_, .slice q.AA q.f.acts.length q.ma, .slice q.AD q.f.devs.length q.md] 27))
 have HFB := am (blk_new (w.alloc (.cells #[.int .i64 q.c.n, .int .i64 q.c.pi, .int .i64 q.c.e, .int .i64 q.c.g, .int .i64 q.c.first, .slice q.A q.c.pairs.length q.m] 24)) (.cells #[.int .i64 q.f.kind, .int .i64 q.f.at_, .int .i64 q.f.frm, .int .i64 q.f.to_, .slice q.AA q.f.acts.length q.ma, .slice q.AD q.f.devs.length q.md] 27))
 rw [← size_al_] at HFB
 generalize (w.alloc (.cells #[.int .i64 q.c.n, .int .i64 q.c.pi, .int .i64 q.c.e, .int .i64 q.c.g, .int .i64 q.c.first, .slice q.A q.c.pairs.length q.m] 24)).alloc (.cells #[.int .i64 q.f.kind, .int .i64 q.f.at_, .int .i64 q.f.frm, .int .i64 q.f.to_, .slice q.AA q.f.acts.length q.ma, .slice q.AD q.f.devs.length q.md] 27) = W0 at *
 have hsz := am HB.out.size
 have cc := cells6 HCB.out
 have cf := cells6 HFB.out
 go_upto_region 2 with (go_at_call 67; refine (KO.out _ (HC.out.below HB.out)).mono ?_; rintro e W1 ⟨v1, rfl, hR, hb⟩; obtain ⟨A1, c1, rfl⟩ := Kd.R_slice hR; have HR := am (RdT.of_R hR); have n1 := am (b_tr HB.out hb); have n2 := am (blk_below HCB.out hb); have n3 := am (blk_below HFB.out hb); clear HB HCB HFB hb cc cf; have HB := n1; have HCB := n2; have HFB := n3; clear n1 n2 n3)
 have cc := cells6 HCB.out
 have cf := cells6 HFB.out
 go_upto_region 4 with (go_at_call 36; refine (KC.out _ (HC.out.below HB.out)).mono ?_; rintro e W3 ⟨rfl, hb⟩; replace HR := am (HR.out.below hb); have n1 := am (b_tr HB.out hb); have n2 := am (blk_below HCB.out hb); have n3 := am (blk_below HFB.out hb); clear HB HCB HFB hb cc cf; have HB := n1; have HCB := n2; have HFB := n3; clear n1 n2 n3; have cc := cells6 HCB.out; have cf := cells6 HFB.out)
 clear KO KC b1 b2 b3
 have hM1 := hM.out.1
 have hM2 := hM.out.2
 refine startB (n := 16) (F := fun _ => False) (ds := []) (by kernel_rfl) rfl (fun hHeld => ?_)
 refine plan_ [.t 0 55, .t 1 56, .p 2 57, .p 3 58, .p 4 59, .p 5 60, .p 6 61, .p 7 62, .t 8 63, .p 10 65, .t 11 66] ?_
 repeat (first | refine jP ?_ | refine jW hHeld ?_ | refine jG ?_)
 refine planE ?_
 refine twoNew (i := 9) (j := 12) (Ni := 64) (Nj := 67) (.cells (sdsV (List.replicate q.N zSd)).toArray 127 (0, 0)) (.cells ((List.replicate q.N false).map Value.bool).toArray 4 (0, 0)) (q.N) (q.N) rfl rfl rfl rfl (by decide) (by kernel_rfl) (by decide) (by decide) (by decide) rfl rfl (fun w' => by go_simp; try rfl) (fun w' => by go_simp; try rfl) (fun v w' => by simp only [s0, s1, s2, s3]; go_simp; try rfl) (fun v w' => by simp only [s0, s1, s2, s3]; go_simp; try rfl) hHeld (fun w' o h => h.then_ (b_al w' o)) (fun sb db W4 hne_ hn1_ hn2_ hb1_ hb2_ hb_ hHeld => ?_)
 have HN := am (b_tr (below_drew (Below.refl W3.heap.size W3)) hb_)
 have HS := am hb1_
 have HD := am hb2_
 have hns := am (show sb ≠ db ∧ W3.heap.size ≤ sb ∧ W3.heap.size ≤ db from ⟨hne_, hn1_, hn2_⟩)
 have HK := am hHeld
 clear hb_ hb1_ hb2_ hne_ hn1_ hn2_
 have hHeld := HK.out
 clear HK
 refine norm_ (a' := _) (by simp only [s0, s1, s2, s3, i64_w, i32_w]; rfl) ?_
 refine plan_ [.p 13 68] ?_
 repeat (first | refine jP ?_ | refine jW hHeld ?_ | refine jG ?_)
 refine planE ?_
 refine jO 14 (some 69) (fun K hK => ?_)
 refine value_ (v := .pointer (some ⟨W4.heap.size, 0, none⟩)) (w1 := W4.alloc (.cells ({ q with g := 0, sb := sb, db := db } : WvP).cells.toArray 157)) (by rfl) rfl (by go_simp; try rfl) ?_
 refine hK.out _ _ (hHeld.then_ (b_al W4 _)) (fun hHeld => ?_)
 clear hK K
 refine jM 69 ?_
 refine plan_ [.p 15 18] ?_
 repeat (first | refine jP ?_ | refine jW hHeld ?_ | refine jG ?_)
 refine planE ?_
 refine done_ (by kernel_rfl) ?_
 obtain ⟨ad1, rfl⟩ := HR.out.ad HNE.out
 obtain ⟨ax, rfl⟩ : ∃ ax, Ax = some ax := (HSN.out.1.2.2 (by have := HSL.out; have := HNE.out; omega)).imp fun _ h => h.1
 obtain ⟨p, hpp⟩ : ∃ p : WvP, p = { q with g := W4.heap.size, sb := sb, db := db } := ⟨_, rfl⟩
 have HP := am (show p.OK ∧ p.KD ∧ (∀ l k s d, p.go l k s d = q.go l k s d) ∧ p.N = q.N ∧ p.c = q.c by
  subst hpp
  exact ⟨⟨OKq.out.hc, OKq.out.hN, OKq.out.st, OKq.out.dv, OKq.out.ac, OKq.out.r0, OKq.out.r1, OKq.out.s0, OKq.out.s1, OKq.out.dr⟩, HKq.out, go_congr (fun _ _ _ _ => rfl), rfl, rfl⟩)
 have HH : Aside0 (p.H w (W4.alloc (.cells ({ q with g := 0, sb := sb, db := db } : WvP).cells.toArray 157)) (List.replicate q.N zSd) (List.replicate q.N false)) := ⟨by
  have hz := HB.out.size
  have hz2 := HN.out.size
  subst hpp
  exact ⟨blk_new W4 _, blk_alloc HS.out _, blk_alloc HD.out _, (HB.out.trans (HN.out.mono HB.out.size)).alloc (by omega) _, HC.out, HF.out, HST.out, HDV.out, by show w.heap.size ≤ W4.heap.size; omega, by have := hns.out.2.1; show w.heap.size ≤ sb; omega, by have := hns.out.2.2; show w.heap.size ≤ db; omega⟩⟩
 have hHr := am ((HR.out.below HN.out).below (b_al W4 (.cells ({ q with g := 0, sb := sb, db := db } : WvP).cells.toArray 157)))
 have hHc := am (blk_alloc (blk_below HCB.out HN.out) (.cells ({ q with g := 0, sb := sb, db := db } : WvP).cells.toArray 157))
 have hpg : p.g = W4.heap.size := by rw [hpp]
 have hps : p.sb = sb := by rw [hpp]
 have hpd : p.db = db := by rw [hpp]
 have hcbz := am HCB.out
 clear hpp HN HS HD hM1 hM2 hM HFB HCB HR cc cf
 generalize W4.alloc (.cells ({ q with g := 0, sb := sb, db := db } : WvP).cells.toArray 157) = W5 at *
 subst hps hpd
 rw [← hpg]
 clear hpg
 have hna := HH.out.apart
 have hne := am hna
 have hzz := am (show w.heap.size < p.sb ∧ w.heap.size < p.db from ⟨by have h1 := blk_lt hcbz.out; have h2 := hns.out.2.1; omega, by have h1 := blk_lt hcbz.out; have h2 := hns.out.2.2; omega⟩)
 have nfg : Aside0 (¬ F2 p p.g) := ⟨fun e => e.elim hne.out.1 hne.out.2.1⟩
 have nfc : Aside0 (¬ F2 p w.heap.size) := ⟨fun e => e.elim (fun e => by have := hzz.out.1; omega) (fun e => by have := hzz.out.2; omega)⟩
 have nfx : Aside0 (∀ k, ¬ F2 p (ax.add k).block) := ⟨fun k => by
  have h1 := World.block_lt_of_cell? w _ (string_cell HSN.out.1 0 (by have := HSL.out; have := HNE.out; omega))
  have h2 : (ax.add 0).block = ax.block := by unfold Addr.add; split <;> rfl
  have h3 : (ax.add k).block = ax.block := by unfold Addr.add; split <;> rfl
  rw [h2] at h1
  rw [h3]
  exact fun e => e.elim (fun e => by have := hzz.out.1; omega) (fun e => by have := hzz.out.2; omega)⟩
 have eN : Aside0 (p.N = q.N ∧ q.c.n = q.N) := ⟨HP.out.2.2.2.1, OKq.out.hN⟩
 have KW : Aside0 (∀ W, Kd.C (Kd.int .i64) W (some ad1) ow.length ow → Calls Tryz.prog 100 #[.int .i64 q.c.n, .slice (some ad1) ow.length c1, .int .i64 q.dir] W fun e w' => ∃ v : Value, e = .returned v ∧ Kd.R (Kd.int .i64) 3 w' W.heap.size (fun _ => True) v (wayL q.c.n ow q.dir) ∧ Below W.heap.size W w') := ⟨fun W hW => by
  have h6 := OKq.out.hc.n6; have h12 := OKq.out.hc.n12; have hr := hrange.out; have hm := hHr.out.C.2; have hol := howl.out
  rw [eN.out.2] at h6 h12 hr ⊢
  rcases OKq.out.dr with hd | hd <;> rw [hd]
  ·exact ring_Way_up q.N ow (by omega) (by omega) HNE.out (by omega) hr (some ad1) c1 W hW hm
  ·exact ring_Way_down q.N ow (by omega) (by omega) HNE.out (by omega) hr (some ad1) c1 W hW hm⟩
 have hwr := am (wayL_range q.c.n ow q.dir (by have := OKq.out.hc.n6; omega))
 have hwl0 : (wayL q.c.n ow q.dir).length ≤ 12 := by
  have h12 := OKq.out.hc.n12
  unfold wayL
  split
  ·simp
  ·exact Nat.le_trans (wayF_len _ _ _ _ _ _) (by omega)
 have hwl := am hwl0
 clear hna hwl0 hcbz hns HB
 generalize hway : wayL q.c.n ow q.dir = way at *
 have HWY := am hway
 clear hway
 go_wp2
 go_loopw [72] (fun i w' => ∃ k : Nat, i = .int .i64 k ∧ k ≤ ow.length ∧ Aside0 (p.H w w' (putO (ow.take k) (sends.take k) (List.replicate q.N zSd)) (putD (ow.take k) (List.replicate q.N false))) ∧ Aside0 (RdT (Kd.int .i64) 3 w' (.slice (some ad1) ow.length c1) ow) ∧ Aside0 (w'.heap[w.heap.size]? = some (.cells #[.int .i64 q.c.n, .int .i64 q.c.pi, .int .i64 q.c.e, .int .i64 q.c.g, .int .i64 q.c.first, .slice q.A q.c.pairs.length q.m] 24 (0, 0)))) (fun i _ => ow.length - (intOf i).toNat)
 case atStart => exact ⟨0, rfl, Nat.zero_le _, HH, hHr, hHc⟩
 case round =>
  clear HH hHr hHc
  obtain ⟨k, rfl, hk, hH, hR, hC⟩ := hrel
  by_cases hlt : k < ow.length
  ·have hx0 := hrange.out (rd ow k) (rd_mem (by omega) (by omega))
   have q0 := eq_true hx0.1
   have q1 : (rd ow k < (p.N : Int)) = True := eq_true (by rw [eN.out.1, ← eN.out.2]; exact hx0.2)
   have hlt2 : k < sends.length := by rw [HSL.out]; exact hlt
   have hxs0 : (rd ow k).toNat < q.N := by have := hx0.2; rw [eN.out.2] at this; omega
   have hxs : (rd ow k).toNat < (putO (ow.take k) (sends.take k) (List.replicate q.N zSd)).length := by rw [putO_len]; simpa using hxs0
   have hxd : (rd ow k).toNat < (putD (ow.take k) (List.replicate q.N false)).length := by rw [putD_len]; simpa using hxs0
   have HX := am (And.intro hxs hxd)
   have z1 := hR.out.int_cell k hlt
   have z2 := string_cell (Kd.C_below HSN.out.1 hH.out.hB) k hlt2
   have Z := wv_cells hH.out
   clear hx0 hxs0 hxs hxd hk
   have hxs := HX.out.1
   have hxd := HX.out.2
   go_wp2
   refine startB (n := 19) (F := F2 p) (ds := []) (by kernel_rfl) rfl (fun hHeld => ?_)
   refine plan_ [.p 0 79, .p 1 80, .p 2 81, .t 3 82, .p 4 83, .p 5 84, .p 6 85, .p 7 86, .t 8 87, .p 9 88, .p 10 89, .p 11 90, .p 12 91, .t 13 92, .p 14 93, .p 15 94] ?_
   repeat (first | refine jP ?_ | refine jW (hF := by first | exact nfg.out | exact nfx.out _) hHeld ?_ | refine jG ?_)
   refine planE ?_
   refine jO 16 none (fun K hK => ?_)
   have y0 := side_cell hH.out (rd ow k).toNat 2 _ hxs (by omega) rfl
   have yf := blk_frozen hH.out.hs ((rd ow k).toNat * 4 + 2)
   refine skip_ (w1 := wr.drew.setCell ⟨p.sb, (rd ow k).toNat * 4 + 2, none⟩ (.string (S (sends.getD k [])))) (by rfl) rfl (by go_simp; try rfl) ?_
   have K7 := am (hHeld.set_ (p := ⟨p.sb, (rd ow k).toNat * 4 + 2, none⟩) (.inl (.inl rfl)) (.string (S (sends.getD k []))))
   have H7 := am ((blk_put (w := wr.drew) hH.out.hs ((rd ow k).toNat * 4 + 2) (.string (S (sends.getD k []))) (sdsV_o _ _ _ hxs)))
   have D7 := am ((Below.heap_setCell wr.drew ⟨p.sb, (rd ow k).toNat * 4 + 2, none⟩ (.string (S (sends.getD k []))) p.db (fun e => hne.out.2.2 e.symm)).trans hH.out.hd)
   clear hHeld y0 yf
   generalize wr.drew.setCell ⟨p.sb, (rd ow k).toNat * 4 + 2, none⟩ (.string (S (sends.getD k []))) = W7 at *
   refine hK.out _ _ (K7.out) (fun hHeld => ?_)
   clear hK K
   refine plan_ [.p 17 95] ?_
   repeat (first | refine jP ?_ | refine jW (hF := by first | exact nfg.out | exact nfx.out _) hHeld ?_ | refine jG ?_)
   refine planE ?_
   refine jO 18 none (fun K hK => ?_)
   have y0 := done_at D7.out (rd ow k).toNat hxd
   have yf := blk_frozen D7.out (rd ow k).toNat
   refine skip_ (w1 := W7.setCell ⟨p.db, (rd ow k).toNat, none⟩ (.bool true)) (by rfl) rfl (by go_simp; try rfl) ?_
   refine hK.out _ _ (K7.out.set_ (.inl (.inr rfl)) _) (fun hHeld => ?_)
   clear hK K
   refine done_ (by kernel_rfl) ?_
   have KX := am (K7.out.set_ (p := ⟨p.db, (rd ow k).toNat, none⟩) (.inl (.inr rfl)) (.bool true))
   have NX := am (hH.out.next KX.out ((Below.heap_setCell W7 ⟨p.db, (rd ow k).toNat, none⟩ (.bool true) p.sb hne.out.2.2).trans H7.out) (blk_put D7.out _ _ (bools_set _ _ _)))
   rw [← putO_snoc _ _ _ _ _ (by simp; omega), ← putD_snoc, ← take_rd ow k hlt, ← take_gd sends [] k hlt2] at NX
   clear y0 yf Z z1 z2 q0 q1 hxs hxd HX
   have hol := howl.out
   go_wp2
   go_roundw
   case rel => exact ⟨k + 1, by simp, by omega, NX, ⟨hH.out.rd KX.out hR.out⟩, ⟨KX.out.blk hC.out nfc.out⟩⟩
   case measure => simp [intOf]; omega
  ·obtain rfl : k = ow.length := by omega
   have hH2 := am (show p.H w wr (putO ow sends (List.replicate q.N zSd)) (putD ow (List.replicate q.N false)) by
    have := hH.out
    rwa [List.take_length, show sends.take ow.length = sends by rw [← HSL.out, List.take_length]] at this)
   have z0 : wr.cell? ⟨w.heap.size, 0, none⟩ = some (.int .i64 q.c.n) := (blk_cell hC.out 0).trans rfl
   clear hH hk
   go_wp2_with (go_at_call 100; refine (KW.out _ hR.out.C.1).mono ?_; rintro e W8 ⟨v2, rfl, hR2, hb⟩; obtain ⟨A2, c2, rfl⟩ := Kd.R_slice hR2; have HW := am (RdT.of_R hR2); have n1 := am (hH2.out.below hb); clear hR2 hb hH2; have hH2 := n1; clear n1)
   clear z0 hR hC nfc nfx KW hlt
   obtain ⟨s1, hs1⟩ : ∃ s1, s1 = putO ow sends (List.replicate q.N zSd) := ⟨_, rfl⟩
   obtain ⟨d1, hd1⟩ : ∃ d1, d1 = putD ow (List.replicate q.N false) := ⟨_, rfl⟩
   have HSD := am (And.intro hs1 hd1)
   have HL1 := am (show s1.length = q.N ∧ d1.length = q.N ∧ OutOK s1 by
    subst hs1 hd1
    refine ⟨by rw [putO_len]; simp, by rw [putD_len]; simp, putO_ok _ _ _ (fun x hx => ?_) HS9.out⟩
    rw [List.eq_of_mem_replicate hx]; simp [zSd])
   rw [← hs1, ← hd1] at hH2
   clear hs1 hd1
   go_loopw [103] (fun i w' => ∃ k : Nat, i = .int .i64 k ∧ k ≤ way.length ∧ Aside0 (∃ s d, p.H w w' s d ∧ s.length = q.N ∧ d.length = q.N ∧ OutOK s ∧ p.go (way.drop k) k s d = p.go way 0 s1 d1) ∧ Aside0 (RdT (Kd.int .i64) 3 w' (.slice A2 way.length c2) way)) (fun i _ => way.length - (intOf i).toNat)
   case atStart => exact ⟨0, rfl, Nat.zero_le _, ⟨s1, d1, hH2.out, HL1.out.1, HL1.out.2.1, HL1.out.2.2, rfl⟩, HW⟩
   case round =>
    clear HW hH2
    obtain ⟨k, rfl, hk, hS, hR⟩ := hrel
    by_cases hlt : k < way.length
    ·obtain ⟨s, d, hH, hsl, hdl, hok, hgo⟩ := hS.out
     have hx0 := hwr.out (rd way k) (rd_mem (by omega) (by omega))
     have KR := reach_calls p HP.out.1 HP.out.2.1 (rd way k) ((k : Int) + 1) hx0.1 (by rw [eN.out.1, ← eN.out.2]; exact hx0.2) (by omega) s d (by rw [hsl, eN.out.1]) (by rw [hdl, eN.out.1]) hok w wr hH
     obtain ⟨a2, ha2⟩ := hR.out.ad (by omega)
     subst ha2
     have z1 := hR.out.int_cell k hlt
     have HX := am (And.intro hH (And.intro hsl (And.intro hdl (And.intro hok hgo))))
     have hwl1 := hwl.out
     clear hx0 hH hsl hdl hok hgo hk
     go_wp2_with (go_at_call 101; refine KR.mono ?_; rintro e W9 ⟨rfl, h9, k9⟩; have H9 := am h9; have K9 := am k9; clear h9 k9)
     go_roundw
     case rel => exact ⟨k + 1, by simp, by omega, ⟨_, _, H9.out, by simp [HX.out.2.1], by simp [HX.out.2.2.1], HX.out.2.2.2.1.set _ _ (side_ok HP.out.2.1 _ _ HX.out.2.2.2.1 _ _), by rw [← HX.out.2.2.2.2, drop_rd way k hlt, WvP.go]; simp⟩, ⟨HX.out.1.rd K9.out hR.out⟩⟩
     case measure => simp [intOf]; omega
    ·obtain rfl : k = way.length := by omega
     obtain ⟨s, d, hH, hsl, hdl, hok, hgo⟩ := hS.out
     have KCl := clone_side (some ⟨p.sb, 0, none⟩) q.N (s.map sdS) (by rw [List.length_map, hsl]; have := OKq.out.hc.n12; have := eN.out.2; omega) wr (sides_C hH (by rw [hsl]; have := OKq.out.hc.n12; have := eN.out.2; omega)) (by rw [List.length_map, hsl]; exact Nat.le_refl _)
     rw [List.length_map, hsl] at KCl
     have Z := wv_cells hH
     rw [eN.out.1] at Z
     rw [List.drop_length] at hgo
     have HX := am (And.intro hH hgo)
     clear hH hsl hdl hok hgo hk hlt
     go_wp2_with (go_at_call 102; refine KCl.mono ?_; rintro e W9 ⟨v9, rfl, hR9, hb9⟩; obtain ⟨A9, c9, rfl⟩ := Kd.R_slice hR9; have R9 := am hR9; have B9 := am hb9; clear hR9 hb9)
     go_ret
     have e9 : q.go way 0 (putO ow sends (List.replicate q.N zSd)) (putD ow (List.replicate q.N false)) = s := by
      rw [← HSD.out.1, ← HSD.out.2, ← HP.out.2.2.1, ← HX.out.2, WvP.go]
     refine ⟨_, rfl, ?_, HX.out.1.hB.trans (B9.out.mono HX.out.1.hB.size)⟩
     rw [HWY.out, e9]
     have hf := Kd.R_lower R9.out HX.out.1.hB.size
     rw [List.length_map] at hf
     exact hf
end Go.Proofs.YtgcgglmmfgmaoaaGreat.PK
end
section
namespace Go.Proofs.YtgcgglmmfgmaoaaGreat.PK
open Go Go.RowKit Go.Proofs.YtgcgglmmfgmaoaaGreatW.PrintWords Go.Proofs.YtgcgglmmfgmaoaaGreatW.PrintLast Go.Proofs.YtgcgglmmfgmaoaaGreatW.PrintMore
attribute [local go_sem] max2_int min2_int max_two min_two
def TdR (f : S117) (w : World) (e : Ending) (w' : World) : Prop := (∃ v : Value, e = .returned (.agg (frV f v)) ∧ RdT k55 55 w' v f.f4) ∧ Below w.heap.size w w'
def RdAny (w : World) (e : Ending) (w' : World) : Prop := ∃ (a0 a1 a2 a3 a4 k : Int) (Av : Option Addr) (nv cv : Nat), e = .returned (.tuple #[.agg #[.int .i64 a0, .int .i64 a1, .int .i64 a2, .int .i64 a3, .int .i64 a4, .slice Av nv cv], .int .i64 k]) ∧ ((k == 0) = false ∨ (k == 0) = true ∧ (a0 == 3) = false) ∧ Below w.heap.size w w'
theorem told_keep (c : Cf) (hc : c.OK) (round slot : Int) (base : List UInt8) (hl : base.length ≤ 900) (f : S117) (hf : readL c base = some f) (hf3 : f.f0 = 3) (A : Option Addr) (m : Nat) (w : World) (hr : c.C w A m) :
  Calls Tryz.prog 161 #[c.v A m, .int .i64 round, .int .i64 slot, .string (S base)] w (TdR f w) := by
 have KR := am (fun W hW => read_yes c hc base hl f hf A m W hW)
 have hr := am hr
 have ht : (f.f0 == 3) = true := by simp [hf3]
 have hu := Tryz.underlying117
 clear hc hl hf hf3
 go_enter Tryz.func161, Tryz.ntmps161
 go_upto_region 1 with (fail)
 have HB := am (b_tr (b_al w (.cells #[.int .i64 c.n, .int .i64 c.pi, .int .i64 c.e, .int .i64 c.g, .int .i64 c.first, .slice A c.pairs.length m] 24)) (b_al _ (.cells #[.int .i64 0, .int .i64 0, .int .i64 0, .int .i64 0, .int .i64 0, .slice none 0 0] 117)))
 have HCB := am (blk_alloc (blk_new w (.cells #[.int .i64 c.n, .int .i64 c.pi, .int .i64 c.e, .int .i64 c.g, .int .i64 c.first, .slice A c.pairs.length m] 24)) (.cells #[.int .i64 0, .int .i64 0, .int .i64 0, .int .i64 0, .int .i64 0, .slice none 0 0] 117))
 have HRB := am (blk_new (w.alloc (.cells #[.int .i64 c.n, .int .i64 c.pi, .int .i64 c.e, .int .i64 c.g, .int .i64 c.first, .slice A c.pairs.length m] 24)) (.cells #[.int .i64 0, .int .i64 0, .int .i64 0, .int .i64 0, .int .i64 0, .slice none 0 0] 117))
 rw [← size_al_] at HRB
 generalize (w.alloc (.cells #[.int .i64 c.n, .int .i64 c.pi, .int .i64 c.e, .int .i64 c.g, .int .i64 c.first, .slice A c.pairs.length m] 24)).alloc (.cells #[.int .i64 0, .int .i64 0, .int .i64 0, .int .i64 0, .int .i64 0, .slice none 0 0] 117) = W0 at *
 have cc := cells6 HCB.out
 go_upto_region 3 with (go_at_call 144; refine (KR.out _ (hr.out.below HB.out)).mono ?_; rintro e W1 ⟨⟨v, rfl, hR⟩, hb⟩; obtain ⟨A1, c1, rfl⟩ := Kd.R_slice hR; have HR := am (RdT.of_R hR); have n1 := am (b_tr HB.out hb); have n3 := am (blk_below HRB.out hb); clear HB HCB HRB hR hb cc; have HB := n1; have HRB := n3; clear n1 n3)
 have HR2 := am (HR.out.below (b_al W1 (.cells (frV f (.slice A1 f.f4.length c1)) 117)))
 have HB2 := am (b_tr HB.out (b_al W1 (.cells (frV f (.slice A1 f.f4.length c1)) 117)))
 have HRB2 := am (blk_alloc HRB.out (.cells (frV f (.slice A1 f.f4.length c1)) 117))
 clear HR HB HRB
 unfold frV at HR2 HB2 HRB2
 go_wp2_with ((with_reducible refine gate_ (.store 117 (.tmp 8) (.tmp 25)) rfl ?_); refine store_part rfl 117 (.tmp 8) (.tmp 25) rfl (w.heap.size + 1) 0 117 #[.int .i64 f.f0, .int .i64 f.f1, .int .i64 f.f2, .int .i64 f.f3.f0, .int .i64 f.f3.f1, .slice A1 f.f4.length c1] [.int .i64 0, .int .i64 0, .int .i64 0, .int .i64 0, .int .i64 0, .slice none 0 0] rfl rfl HRB2.out (by simp) info_frame (by simp [Value.oneCell']) ?_; intro W2 HG_ KG_; have HG := am HG_; have KG := am KG_; clear HG_ KG_)
 exact bodyPost_ret (v := .agg (frV f (.slice A1 f.f4.length c1))) (results_cell_row Tryz.results161 _ W2 _ _ _ _ _ rfl HG.out hu rfl info_frame) rfl ⟨⟨_, rfl, RdT.kp plain_item HR2.out KG.out (fun k cells hk hx => by subst hk; rw [HRB2.out] at hx; simp at hx)⟩, below_kp HB2.out KG.out (by omega) HB2.out.size⟩
def itV : List S55 → List Value
 | [] => []
 | x :: r => .int .i64 x.f0 :: .int .i64 x.f1 :: itV r
theorem itV_at : ∀ (l : List S55) (j i : Nat) (x : S55), l[j]? = some x → i < 2 → (itV l)[j * 2 + i]? = [Value.int .i64 x.f0, .int .i64 x.f1][i]?
 | [], j, i, x, h, _ => by simp at h
 | y :: r, 0, i, x, h, hi => by
  obtain rfl : y = x := by simpa using h
  match i, hi with
  | 0, _ => rfl
  | 1, _ => rfl
 | y :: r, j + 1, i, x, h, hi => by
  have := itV_at r j i x (by simpa using h) hi
  rw [show (j + 1) * 2 + i = (j * 2 + i) + 2 by omega]
  exact this
theorem itV_rep (n : Nat) (x : S55) : itV (List.replicate n x) = (List.replicate n [Value.int .i64 x.f0, .int .i64 x.f1]).flatten := by
 induction n with
 | zero => rfl
 | succ n ih => rw [List.replicate_succ, List.replicate_succ, List.flatten_cons, itV, ih]; rfl
theorem RdT.items {W : World} {b : Nat} {l : List S55} (h : W.heap[b]? = some (.cells (itV l).toArray 55 (0, 0))) (hl : l.length ≤ 100000) : RdT k55 55 W (.slice (some ⟨b, 0, none⟩) l.length l.length) l := by
 refine ⟨_, _, rfl, Nat.le_refl _, ⟨rfl, by omega, fun _ => ⟨_, rfl, fun j x hj => ?_⟩⟩, fun ad hA => ?_⟩
 ·refine ⟨[.int .i64 x.f0, .int .i64 x.f1], rfl, k55_mk W x, fun i u hi => ?_⟩
  have hi2 : i < 2 := (List.getElem?_eq_some_iff.1 hi).1
  rw [add_plain, show k55.sz = 2 from rfl, blk_cell h, List.getElem?_toArray, itV_at l j i x hj hi2]
  exact hi
 ·obtain rfl := Option.some.inj hA
  exact ⟨_, h⟩
theorem RdT.reps {W : World} {b n : Nat} {x : S55} (h : W.heap[b]? = some (.cells ((List.replicate n [Value.int .i64 x.f0, .int .i64 x.f1]).flatten.toArray) 55 (0, 0))) (hl : n ≤ 100000) : RdT k55 55 W (.slice (some ⟨b, 0, none⟩) n n) (List.replicate n x) := by
 rw [← itV_rep] at h
 have := RdT.items h (by simpa using hl)
 simpa using this
theorem rowM_set (i n : Nat) (h : i < n) : (rowM ⟨1, 0⟩ i n).toArray.setIfInBounds (i * 2) (.int .i64 1) = (rowM ⟨1, 0⟩ (i + 1) n).toArray := by
 have h2 := rowM_step ⟨1, 0⟩ i 1 n (by omega)
 simp only [List.setIfInBounds_toArray]
 rw [← h2]
 congr 1
 have hl := rowM_len ⟨1, 0⟩ i n (by omega)
 apply List.ext_getElem?
 intro j
 by_cases hj : j = i * 2
 ·subst hj
  rw [List.getElem?_set_self (by omega), List.append_assoc, List.getElem?_append_right (by simp [hl]; omega)]
  simp [hl, Nat.min_eq_left (show i * 2 ≤ n * 2 by omega)]
 ·rw [List.getElem?_set_ne (by omega)]
  by_cases hlt : j < i * 2
  ·rw [List.append_assoc, List.getElem?_append_left (by simp [hl]; omega), List.getElem?_take_of_lt hlt]
  ·by_cases h1 : j = i * 2 + 1
   ·subst h1
    rw [List.append_assoc, List.getElem?_append_right (by simp [hl]; omega)]
    simp [hl, Nat.min_eq_left (show i * 2 ≤ n * 2 by omega)]
    have e : (rowM ⟨1, 0⟩ i n)[i * 2 + 1]? = some (.int .i64 0) := by
     unfold rowM
     rw [List.getElem?_append_right (by rw [flat_len]; simp), flat_len, show n - i = (n - i - 1) + 1 by omega, List.replicate_succ, List.flatten_cons]
     simp
    exact e
   ·rw [List.getElem?_append_right (by simp [hl]; omega)]
    simp [hl, Nat.min_eq_left (show i * 2 ≤ n * 2 by omega)]
    congr 1
    omega
theorem told_new (c : Cf) (hc : c.OK) (round slot : Int) (hr0 : 0 ≤ round) (hr1 : round ≤ 1000000) (base : List UInt8) (A : Option Addr) (m : Nat) (w : World) (hr : c.C w A m) (KR0 : ∀ W, c.C W A m → Calls Tryz.prog 144 #[c.v A m, .string (S base)] W (RdAny W)) :
  Calls Tryz.prog 161 #[c.v A m, .int .i64 round, .int .i64 slot, .string (S base)] w (TdR ⟨3, c.wire round, slot, ⟨1, 0⟩, if slot < c.n then List.replicate c.slots.toNat ⟨1, 0⟩ else []⟩ w) := by
 have KR := am KR0
 have hr := am hr
 have KW := am (fun W hW => wire_calls c hc round hr0 hr1 A m W hW)
 have KS := am (fun W hW => slots_calls c hc A m W hW)
 have hu := Tryz.underlying117
 have hsl := am (show 0 ≤ c.slots ∧ c.slots ≤ 15 by have := hc.n6; have := hc.n12; have := hc.l3; unfold Cf.slots; omega)
 obtain ⟨n, hn⟩ : ∃ n : Nat, n = c.slots.toNat := ⟨_, rfl⟩
 have hN := am (show c.slots = n ∧ n ≤ 15 by have := hsl.out; omega)
 have hmk : ∀ W : World, (Instr.makeSlice 71 (.int .i64 c.slots) (.int .i64 c.slots)).run Tryz.prog W = .ok (.slice (some ⟨W.heap.size, 0, none⟩) n n) (W.alloc (.cells (rowM ⟨1, 0⟩ 0 n).toArray 55)) := fun W => by
  have h := make_run (P := Tryz.prog) 71 55 [.int .i64 0, .int .i64 0] (.agg #[.int .i64 0, .int .i64 0]) 16 Tryz.underlying71 info_item9 rfl (by simp) c.slots n hN.out.1 (by have := hN.out.2; omega) (by omega) W
  rw [h]; unfold rowM; simp
 have HMK := am hmk
 have hcas := am (show (slot < c.n ∧ decide (slot < c.n) = true) ∨ (¬ slot < c.n ∧ decide (slot < c.n) = false) by by_cases h : slot < c.n; exact .inl ⟨h, by simpa using h⟩; exact .inr ⟨h, by simpa using h⟩)
 rw [← hn]
 have HEC := am (show (slot < c.n → (if slot < c.n then List.replicate n (⟨1, 0⟩ : S55) else []) = List.replicate n ⟨1, 0⟩) ∧ (¬ slot < c.n → (if slot < c.n then List.replicate n (⟨1, 0⟩ : S55) else []) = []) from ⟨fun h => if_pos h, fun h => if_neg h⟩)
 generalize (if slot < c.n then List.replicate n (⟨1, 0⟩ : S55) else []) = ec at *
 clear hc KR0 hr0 hr1 hmk hn hsl
 go_enter Tryz.func161, Tryz.ntmps161
 go_upto_region 1 with (fail)
 have HB := am (b_tr (b_al w (.cells #[.int .i64 c.n, .int .i64 c.pi, .int .i64 c.e, .int .i64 c.g, .int .i64 c.first, .slice A c.pairs.length m] 24)) (b_al _ (.cells #[.int .i64 0, .int .i64 0, .int .i64 0, .int .i64 0, .int .i64 0, .slice none 0 0] 117)))
 have HCB := am (blk_alloc (blk_new w (.cells #[.int .i64 c.n, .int .i64 c.pi, .int .i64 c.e, .int .i64 c.g, .int .i64 c.first, .slice A c.pairs.length m] 24)) (.cells #[.int .i64 0, .int .i64 0, .int .i64 0, .int .i64 0, .int .i64 0, .slice none 0 0] 117))
 have HRB := am (blk_new (w.alloc (.cells #[.int .i64 c.n, .int .i64 c.pi, .int .i64 c.e, .int .i64 c.g, .int .i64 c.first, .slice A c.pairs.length m] 24)) (.cells #[.int .i64 0, .int .i64 0, .int .i64 0, .int .i64 0, .int .i64 0, .slice none 0 0] 117))
 rw [← size_al_] at HRB
 generalize (w.alloc (.cells #[.int .i64 c.n, .int .i64 c.pi, .int .i64 c.e, .int .i64 c.g, .int .i64 c.first, .slice A c.pairs.length m] 24)).alloc (.cells #[.int .i64 0, .int .i64 0, .int .i64 0, .int .i64 0, .int .i64 0, .slice none 0 0] 117) = W0 at *
 have cc := cells6 HCB.out
 go_upto_region 4 with (go_at_call 144; refine (KR.out _ (hr.out.below HB.out)).mono ?_; rintro e W1 ⟨a0, a1, a2, a3, a4, k, Av, nv, cv, rfl, ht, hb⟩; have n1 := am (b_tr HB.out hb); have n2 := am (blk_below HCB.out hb); have n3 := am (blk_below HRB.out hb); clear HB HCB HRB hb cc; have HB := n1; have HCB := n2; have HRB := n3; clear n1 n2 n3; rcases ht with ht | ⟨ht, ht2⟩)
 all_goals
  have FR := am (blk_new W1 (.cells #[.int .i64 a0, .int .i64 a1, .int .i64 a2, .int .i64 a3, .int .i64 a4, .slice Av nv cv] 117))
  have n1 := am (b_tr HB.out (b_al W1 (.cells #[.int .i64 a0, .int .i64 a1, .int .i64 a2, .int .i64 a3, .int .i64 a4, .slice Av nv cv] 117)))
  have n2 := am (blk_alloc HCB.out (.cells #[.int .i64 a0, .int .i64 a1, .int .i64 a2, .int .i64 a3, .int .i64 a4, .slice Av nv cv] 117))
  have n3 := am (blk_alloc HRB.out (.cells #[.int .i64 a0, .int .i64 a1, .int .i64 a2, .int .i64 a3, .int .i64 a4, .slice Av nv cv] 117))
  have hfb := am HB.out.size
  have hfc := am (show w.heap.size < W1.heap.size ∧ w.heap.size + 1 < W1.heap.size from ⟨blk_lt HCB.out, blk_lt HRB.out⟩)
  clear HB HCB HRB
  have HB := n1
  have HCB := n2
  have HRB := n3
  clear n1 n2 n3
  generalize W1.alloc (.cells #[.int .i64 a0, .int .i64 a1, .int .i64 a2, .int .i64 a3, .int .i64 a4, .slice Av nv cv] 117) = W2 at *
  generalize W1.heap.size = fb at *
  have cc := cells6 HCB.out
  go_upto_region 5 with (first
   | (go_at_call 91; refine (KW.out _ (hr.out.below HB.out)).mono ?_; rintro e W3 ⟨rfl, hb⟩; have n1 := am (b_tr HB.out hb); have n2 := am (blk_below HCB.out hb); have n3 := am (blk_below HRB.out hb); have n4 := am (blk_below FR.out hb); clear HB HCB HRB FR hb cc; have HB := n1; have HCB := n2; have HRB := n3; have FR := n4; clear n1 n2 n3 n4)
   | ((with_reducible refine gate_ (.store 117 (.tmp 9) (.tmp 31)) rfl ?_); refine store_part rfl 117 (.tmp 9) (.tmp 31) rfl (fb) 0 117 #[.int .i64 3, .int .i64 (c.wire round), .int .i64 slot, .int .i64 1, .int .i64 0, .slice none 0 0] [.int .i64 a0, .int .i64 a1, .int .i64 a2, .int .i64 a3, .int .i64 a4, .slice Av nv cv] rfl rfl FR.out (by simp) info_frame (by simp [Value.oneCell']) ?_; intro W4 HF_ KF_; have HF := am HF_; have KF := am KF_; clear HF_ KF_))
  have n1 := am (am (HB.out.trans (KF.out.below HB.out.size (fun i hi e => by have := hfb.out; omega))))
  have n2 := am (KF.out.blk HCB.out (fun e => by have := hfc.out; omega))
  have n3 := am (KF.out.blk HRB.out (fun e => by have := hfc.out; omega))
  clear HB HCB HRB FR KF KW
  have HB := n1.out
  have HCB := n2
  have HRB := n3
  have FR := am (show W4.heap[fb]? = some (.cells #[.int .i64 3, .int .i64 (c.wire round), .int .i64 slot, .int .i64 1, .int .i64 0, .slice none 0 0] 117 (0, 0)) from HF.out)
  clear n1 n2 n3 HF
  have cc := cells6 HCB.out
  rcases hcas.out with ⟨hs1, hs2⟩ | ⟨hs1, hs2⟩
  all_goals have hs1 := am hs1
  ·have hmk := HMK.out
   go_upto_region 7 with (go_at_call 41; refine (KS.out _ (hr.out.below HB.out)).mono ?_; rintro e W5 ⟨rfl, hb⟩; have n1 := am (b_tr HB.out hb); have n3 := am (blk_below HRB.out hb); have n4 := am (blk_below FR.out hb); clear HB HCB HRB FR hb cc; have HB := n1; have HRB := n3; have FR := n4; clear n1 n3 n4; have y4 := (blk_cell (blk_alloc FR.out (.cells (rowM ⟨1, 0⟩ 0 n).toArray 55)) 5).trans rfl; have yf := blk_frozen (blk_alloc FR.out (.cells (rowM ⟨1, 0⟩ 0 n).toArray 55)) 5)
   have EB := am (blk_new W5 (.cells (rowM ⟨1, 0⟩ 0 n).toArray 55))
   have n1 := am (b_tr HB.out (b_al W5 (.cells (rowM ⟨1, 0⟩ 0 n).toArray 55)))
   have n3 := am (blk_alloc HRB.out (.cells (rowM ⟨1, 0⟩ 0 n).toArray 55))
   have n4 := am (blk_alloc FR.out (.cells (rowM ⟨1, 0⟩ 0 n).toArray 55))
   have heb := am (show w.heap.size ≤ W5.heap.size ∧ fb < W5.heap.size from ⟨HB.out.size, blk_lt FR.out⟩)
   clear HB HRB FR y4 yf KS HMK hmk hr
   generalize W5.alloc (.cells (rowM ⟨1, 0⟩ 0 n).toArray 55) = W6 at *
   generalize W5.heap.size = eb at *
   have HB := am (n1.out.setCell (p := ⟨fb, 5, none⟩) hfb.out (.slice (some ⟨eb, 0, none⟩) n n))
   have HRB := am ((Below.heap_setCell W6 ⟨fb, 5, none⟩ (.slice (some ⟨eb, 0, none⟩) n n) (w.heap.size + 1) (by have := hfc.out; show w.heap.size + 1 ≠ fb; omega)).trans n3.out)
   have FR := am (blk_put n4.out 5 (.slice (some ⟨eb, 0, none⟩) n n) (cs' := #[.int .i64 3, .int .i64 (c.wire round), .int .i64 slot, .int .i64 1, .int .i64 0, .slice (some ⟨eb, 0, none⟩) n n]) (by simp))
   have EB2 := am ((Below.heap_setCell W6 ⟨fb, 5, none⟩ (.slice (some ⟨eb, 0, none⟩) n n) eb (by have := heb.out; show eb ≠ fb; omega)).trans EB.out)
   clear EB n1 n3 n4
   generalize W6.setCell ⟨fb, 5, none⟩ (.slice (some ⟨eb, 0, none⟩) n n) = W7 at *
   have f6 := cells6 FR.out
   go_wp2
   clear f6
   go_loopw [43] (fun v w' => ∃ i : Nat, v = .int .i64 i ∧ i ≤ n ∧ Aside0 (w'.heap[eb]? = some (.cells (rowM ⟨1, 0⟩ i n).toArray 55 (0, 0))) ∧ Aside0 (w'.heap[fb]? = some (.cells #[.int .i64 3, .int .i64 (c.wire round), .int .i64 slot, .int .i64 1, .int .i64 0, .slice (some ⟨eb, 0, none⟩) n n] 117 (0, 0))) ∧ Aside0 (w'.heap[w.heap.size + 1]? = some (.cells #[.int .i64 0, .int .i64 0, .int .i64 0, .int .i64 0, .int .i64 0, .slice none 0 0] 117 (0, 0))) ∧ Aside0 (Below w.heap.size w w')) (fun v _ => n - (intOf v).toNat)
   case atStart => exact ⟨0, rfl, Nat.zero_le _, EB2, FR, HRB, HB⟩
   case round =>
    clear HB HRB FR EB2
    obtain ⟨i, rfl, hi, hE, hF, hR, hB⟩ := hrel
    by_cases hlt : i < n
    ·have f4 : wr.cell? ⟨fb, 5, none⟩ = some (.slice (some ⟨eb, 0, none⟩) n n) := (blk_cell hF.out 5).trans rfl
     have e0 : ∃ u, wr.cell? ⟨eb, i * 2, none⟩ = some u := by
      rw [blk_cell hE.out, List.getElem?_toArray]
      exact ⟨_, List.getElem?_eq_getElem (by rw [rowM_len _ _ _ (by omega)]; omega)⟩
     obtain ⟨u0, e0⟩ := e0
     have ef := blk_frozen hE.out (i * 2)
     have hn15 := hN.out.2
     clear hi
     go_wp2
     have EX := am (blk_put hE.out (i * 2) (.int .i64 1) (rowM_set i n hlt))
     have FX := am ((Below.heap_setCell wr ⟨eb, i * 2, none⟩ (.int .i64 1) fb (by have := heb.out; show fb ≠ eb; omega)).trans hF.out)
     have RX := am ((Below.heap_setCell wr ⟨eb, i * 2, none⟩ (.int .i64 1) (w.heap.size + 1) (by have := heb.out; have := hfc.out; show w.heap.size + 1 ≠ eb; omega)).trans hR.out)
     have BX := am (hB.out.setCell (p := ⟨eb, i * 2, none⟩) heb.out.1 (.int .i64 1))
     clear f4 e0 ef
     go_roundw
     case rel => exact ⟨i + 1, by simp, by omega, EX, FX, RX, BX⟩
     case measure => simp [intOf]; omega
    ·obtain rfl : i = n := by omega
     have f6 := cells6 hF.out
     clear hi
     go_wp2_with ((with_reducible refine gate_ (.store 117 (.tmp 8) (.tmp 52)) rfl ?_); refine store_part rfl 117 (.tmp 8) (.tmp 52) rfl (w.heap.size + 1) 0 117 #[.int .i64 3, .int .i64 (c.wire round), .int .i64 slot, .int .i64 1, .int .i64 0, .slice (some ⟨eb, 0, none⟩) i i] [.int .i64 0, .int .i64 0, .int .i64 0, .int .i64 0, .int .i64 0, .slice none 0 0] rfl rfl hR.out (by simp) info_frame (by simp [Value.oneCell']) ?_; intro W9 HG_ KG_; have HG := am HG_; have KG := am KG_; clear HG_ KG_)
     have hE2 := KG.out.blk hE.out (by have := heb.out; have := hfc.out; omega)
     unfold rowM at hE2
     rw [Nat.sub_self, List.replicate_zero, List.flatten_nil, List.append_nil] at hE2
     refine bodyPost_ret (v := .agg #[.int .i64 3, .int .i64 (c.wire round), .int .i64 slot, .int .i64 1, .int .i64 0, .slice (some ⟨eb, 0, none⟩) i i]) (results_cell_row Tryz.results161 _ W9 _ _ _ _ _ rfl HG.out hu rfl info_frame) rfl ⟨⟨_, rfl, ?_⟩, below_kp hB.out KG.out (by omega) hB.out.size⟩
     rw [show ec = _ from HEC.out.1 hs1.out]
     exact RdT.reps (x := ⟨1, 0⟩) hE2 (by have := hN.out.2; omega)
  ·have f6 := cells6 FR.out
   clear KS HMK hr
   go_wp2_with ((with_reducible refine gate_ (.store 117 (.tmp 8) (.tmp 52)) rfl ?_); refine store_part rfl 117 (.tmp 8) (.tmp 52) rfl (w.heap.size + 1) 0 117 #[.int .i64 3, .int .i64 (c.wire round), .int .i64 slot, .int .i64 1, .int .i64 0, .slice none 0 0] [.int .i64 0, .int .i64 0, .int .i64 0, .int .i64 0, .int .i64 0, .slice none 0 0] rfl rfl HRB.out (by simp) info_frame (by simp [Value.oneCell']) ?_; intro W9 HG_ KG_; have HG := am HG_; have KG := am KG_; clear HG_ KG_)
   refine bodyPost_ret (v := .agg #[.int .i64 3, .int .i64 (c.wire round), .int .i64 slot, .int .i64 1, .int .i64 0, .slice none 0 0]) (results_cell_row Tryz.results161 _ W9 _ _ _ _ _ rfl HG.out hu rfl info_frame) rfl ⟨⟨_, rfl, ?_⟩, below_kp HB.out KG.out (by omega) HB.out.size⟩
   rw [show ec = _ from HEC.out.2 (by have := hs1.out; omega)]
   exact RdT.nil _ _ _
end Go.Proofs.YtgcgglmmfgmaoaaGreat.PK
end
section
namespace Go.Proofs.YtgcgglmmfgmaoaaGreat.PK
open Go Go.RowKit Go.Proofs.YtgcgglmmfgmaoaaGreatW.PrintWords Go.Proofs.YtgcgglmmfgmaoaaGreatW.PrintLast Go.Proofs.YtgcgglmmfgmaoaaGreatW.PrintMore
attribute [local go_sem] max2_int min2_int max_two min_two
theorem over_len (cur : List Value) (o : Nat) (cs : List Value) (h : o + cs.length ≤ cur.length) : (overAt cur o cs).length = cur.length := by unfold overAt; simp; omega
theorem over_at (cur : List Value) (o : Nat) (cs : List Value) (j : Nat) (h : o + cs.length ≤ cur.length) (hj : j < cs.length) : (overAt cur o cs)[o + j]? = cs[j]? := by
 unfold overAt
 rw [List.getElem?_append_left (by simp; omega), List.getElem?_append_right (by simp; omega)]
 congr 1
 simp; omega
theorem over_set (cur : List Value) (o : Nat) (cs : List Value) (j : Nat) (v : Value) (h : o + cs.length ≤ cur.length) (hj : j < cs.length) : (overAt cur o cs).set (o + j) v = overAt cur o (cs.set j v) := by
 unfold overAt
 rw [List.set_append_left _ _ (by simp; omega), List.set_append_right _ _ (by simp; omega)]
 simp only [List.length_set, List.length_take]
 rw [show o + j - min o cur.length = j by omega]
theorem over_over (cur : List Value) (o : Nat) (A B : List Value) (h : o + A.length ≤ cur.length) (hB : B.length ≤ A.length) : overAt (overAt cur o A) o B = overAt cur o (B ++ A.drop B.length) := by
 unfold overAt
 have e1 : (cur.take o ++ A ++ cur.drop (o + A.length)).take o = cur.take o := by
  rw [List.append_assoc, List.take_append_of_le_length (by rw [List.length_take]; omega), List.take_take, Nat.min_self]
 have e2 : (cur.take o ++ A ++ cur.drop (o + A.length)).drop (o + B.length) = A.drop B.length ++ cur.drop (o + A.length) := by
  rw [List.append_assoc, show o + B.length = (cur.take o).length + B.length by rw [List.length_take]; omega, List.drop_length_add_append, List.drop_append_of_le_length hB]
 rw [e1, e2]
 simp [List.append_assoc]
 omega
theorem over_cell {W : World} {b o T : Nat} {cur cs : List Value} (h : W.heap[b]? = some (.cells (overAt cur o cs).toArray T (0, 0))) (j : Nat) (v : Value) (hf : o + cs.length ≤ cur.length) (hv : cs[j]? = some v) : W.cell? ⟨b, o + j, none⟩ = some v := by
 rw [blk_cell h, List.getElem?_toArray, over_at cur o cs j hf (List.getElem?_eq_some_iff.1 hv).1, hv]
theorem over_put {W : World} {b o T : Nat} {cur cs : List Value} (h : W.heap[b]? = some (.cells (overAt cur o cs).toArray T (0, 0))) (j : Nat) (v : Value) (hf : o + cs.length ≤ cur.length) (hj : j < cs.length) : (W.setCell ⟨b, o + j, none⟩ v).heap[b]? = some (.cells (overAt cur o (cs.set j v)).toArray T (0, 0)) :=
 blk_put h (o + j) v (by rw [List.setIfInBounds_toArray, over_set cur o cs j v hf hj])
theorem add_plain_at (b o j : Nat) : (⟨b, o, none⟩ : Addr).add j = ⟨b, o + j, none⟩ := by unfold Addr.add; split <;> simp_all
theorem Kp.trans' {F : Nat → Prop} {a b c : World} (h : Kp F a b) {g : Nat} (k : Kp (fun k => k = g) b c) (hg : a.heap.size ≤ g) : Kp F a c :=
 ⟨k.os.trans h.os, k.tape.trans h.tape, k.output.trans h.output, Nat.le_trans h.size k.size, fun i hi hn => (k.block i (Nat.lt_of_lt_of_le hi h.size) (by omega)).trans (h.block i hi hn)⟩
structure Qr where
 l : List Int
 n : Nat
structure Qr.OK (q : Qr) : Prop where
 l4 : q.l.length = 4
 n4 : q.n ≤ 4
def Qr.cs (q : Qr) : List Value := q.l.map (Value.int .i64) ++ [.int .i64 q.n]
theorem Qr.len {q : Qr} (h : q.OK) : q.cs.length = 5 := by unfold Qr.cs; simp [h.l4]
theorem Qr.at_n {q : Qr} (h : q.OK) : q.cs[4]? = some (.int .i64 q.n) := by unfold Qr.cs; rw [List.getElem?_append_right (by simp [h.l4])]; simp [h.l4]
theorem Qr.at_l {q : Qr} (h : q.OK) (j : Nat) (hj : j < 4) : q.cs[j]? = some (.int .i64 (q.l.getD j 0)) := by
 unfold Qr.cs
 have : j < q.l.length := by rw [h.l4]; exact hj
 rw [List.getElem?_append_left (by simpa using this), List.getElem?_map, List.getD_eq_getElem?_getD, List.getElem?_eq_getElem this]; rfl
def zQr : Qr := ⟨[0, 0, 0, 0], 0⟩
def Qr.send (q : Qr) (v : Int) : Qr × Int := if v < 0 ∨ 255 < v then (q, 1) else if q.n = 4 then (q, 8) else (⟨q.l.set q.n v, q.n + 1⟩, 0)
def Qr.next (q : Qr) : Qr × S55 := if q.n = 0 then (q, ⟨1, 0⟩) else (⟨(q.l.drop 1).take (q.n - 1) ++ q.l.drop (q.n - 1), q.n - 1⟩, ⟨2, q.l.getD 0 0⟩)
theorem Qr.send_ok {q : Qr} (h : q.OK) (v : Int) : (q.send v).1.OK := by
 unfold Qr.send
 split
 ·exact h
 ·split
  ·exact h
  ·exact ⟨by simp [h.l4], by have := h.n4; show q.n + 1 ≤ 4; omega⟩
theorem Qr.next_ok {q : Qr} (h : q.OK) : q.next.1.OK := by
 unfold Qr.next
 split
 ·exact h
 ·have := h.n4; have := h.l4
  exact ⟨by simp; omega, by show q.n - 1 ≤ 4; omega⟩
theorem Qr.cs_put {q : Qr} (h : q.OK) (hn : q.n < 4) (v : Int) : (q.cs.set q.n (.int .i64 v)).set 4 (.int .i64 ((q.n : Int) + 1)) = Qr.cs ⟨q.l.set q.n v, q.n + 1⟩ := by
 unfold Qr.cs
 rw [List.set_append_left _ _ (by simp [h.l4]; omega), List.set_append_right _ _ (by simp [h.l4])]
 simp [h.l4, List.map_set]
theorem Qr.cs_next {q : Qr} (h : q.OK) (hn : q.n ≠ 0) : ((((q.l.drop 1).take (q.n - 1)).map (Value.int .i64) ++ q.cs.drop (q.n - 1)).set 4 (.int .i64 ((q.n - 1 : Nat) : Int))) = Qr.cs ⟨(q.l.drop 1).take (q.n - 1) ++ q.l.drop (q.n - 1), q.n - 1⟩ := by
 have h4 := h.l4
 have hn4 := h.n4
 unfold Qr.cs
 rw [List.drop_append_of_le_length (by simp; omega), ← List.append_assoc, List.set_append_right _ _ (by simp; omega)]
 simp only [List.length_append, List.length_map, List.length_take, List.length_drop, List.map_append, List.map_drop]
 rw [show 4 - (min (q.n - 1) (q.l.length - 1) + (q.l.length - (q.n - 1))) = 0 by omega]
 rfl
theorem queue_Clear (b o T : Nat) (cur : List Value) (w : World) (hg : w.heap[b]? = some (.cells cur.toArray T (0, 0))) (hf : o + 5 ≤ cur.length) :
  Calls Tryz.prog 88 #[.pointer (some ⟨b, o, none⟩)] w fun e w' => e = .returned (.tuple #[]) ∧ w'.heap[b]? = some (.cells (overAt cur o zQr.cs).toArray T (0, 0)) ∧ Kp (fun k => k = b) w w' := by
 have iq : (Tryz.prog.info? 140).map (·.size) = some 5 := by kernel_rfl
 go_enter Tryz.func88, Tryz.ntmps88
 go_wp2_with ((with_reducible refine gate_ (.store 140 (.tmp 4) (.tmp 3)) rfl ?_); refine store_part rfl 140 (.tmp 4) (.tmp 3) rfl b o T #[.int .i64 0, .int .i64 0, .int .i64 0, .int .i64 0, .int .i64 0] cur rfl rfl hg (by simpa using hf) iq (by simp [Value.oneCell']) ?_; intro W2 h_ k_; have HG := am h_; have HK := am k_; clear h_ k_)
 go_end0
 exact ⟨rfl, HG.out, HK.out⟩
theorem queue_Send (q : Qr) (hq : q.OK) (v : Int) (b o T : Nat) (cur : List Value) (w : World) (hg0 : w.heap[b]? = some (.cells (overAt cur o q.cs).toArray T (0, 0))) (hf : o + 5 ≤ cur.length) :
  Calls Tryz.prog 89 #[.pointer (some ⟨b, o, none⟩), .int .i64 v] w fun e w' => e = .returned (.int .i64 (q.send v).2) ∧ w'.heap[b]? = some (.cells (overAt cur o (q.send v).1.cs).toArray T (0, 0)) ∧ Kp (fun k => k = b) w w' := by
 have ok := am hq
 have hg := am hg0
 have hf := am hf
 have c4 := over_cell hg0 4 _ (by rw [q.len hq]; exact hf.out) (q.at_n hq)
 unfold Qr.send
 by_cases h1 : v < 0
 ·have d1 : decide (v < 0) = true := by simpa using h1
  rw [if_pos (.inl h1)]
  clear h1 hq hg0 c4
  go_enter Tryz.func89, Tryz.ntmps89
  go_wp2
  go_ret
  exact ⟨rfl, hg.out, Kp.refl _ _⟩
 have d1 : decide (v < 0) = false := by simpa using h1
 by_cases h2 : 255 < v
 ·have d2 : decide (255 < v) = true := by simpa using h2
  rw [if_pos (.inr h2)]
  clear h1 h2 hq hg0 c4
  go_enter Tryz.func89, Tryz.ntmps89
  go_wp2
  go_ret
  exact ⟨rfl, hg.out, Kp.refl _ _⟩
 have d2 : decide (255 < v) = false := by simpa using h2
 rw [if_neg (by omega)]
 by_cases h3 : q.n = 4
 ·have d3 : ((q.n : Int) == 4) = true := by simp [h3]
  rw [if_pos h3]
  clear h1 h2 h3 hq hg0
  go_enter Tryz.func89, Tryz.ntmps89
  go_wp2
  go_ret
  exact ⟨rfl, hg.out, Kp.refl _ _⟩
 ·have d3 : ((q.n : Int) == 4) = false := by simp; omega
  rw [if_neg h3]
  have hn : q.n < 4 := by have := hq.n4; omega
  have hcn := q.at_l hq q.n hn
  have hn4 : ((q.n : Int) < 4) = True := eq_true (by omega)
  have HN4 := am hn
  have HC := am hcn
  clear h1 h2 h3 hq hg0 hn
  go_enter Tryz.func89, Tryz.ntmps89
  go_wp2
  have HN := am (below_drew (Below.refl w.heap.size w))
  refine startB (n := 10) (F := fun _ => False) (ds := [9]) (by kernel_rfl) rfl (fun hHeld => ?_)
  refine plan_ [.p 0 18, .p 1 19, .p 2 20, .p 3 21, .t 4 22, .p 5 23, .p 6 24, .p 7 25, .p 8 26] ?_
  repeat (first | refine jP ?_ | refine jW hHeld ?_ | refine jG ?_)
  refine planE ?_
  refine jL 9 none (fun K hK => ?_)
  have y0 := over_cell hg.out q.n (.int .i64 (q.l.getD q.n 0)) (by rw [q.len ok.out]; omega) hcn
  have yf := blk_frozen hg.out (o + q.n)
  refine skip_ (w1 := w.drew.setCell ⟨b, o + q.n, none⟩ (.int .i64 v)) (by rfl) rfl (by go_simp; try rfl) ?_
  refine hK.out _ _ ?_
  clear hK K
  refine done_ (by kernel_rfl) ?_
  have H5 := am (over_put (W := w.drew) hg.out q.n (.int .i64 v) (by rw [q.len ok.out]; exact hf.out) (by rw [q.len ok.out]; have := HN4.out; omega))
  have K5 := am (((Kp.of (F := fun k => k = b) HN.out)).set_ (p := ⟨b, o + q.n, none⟩) (.inl rfl) (.int .i64 v))
  clear c4 hcn hn4 HN hg
  generalize w.drew.setCell ⟨b, o + q.n, none⟩ (.int .i64 v) = W2 at *
  have c4 := over_cell H5.out 4 (.int .i64 (q.n : Int)) (by rw [List.length_set, q.len ok.out]; exact hf.out) (by rw [List.getElem?_set_ne (by have := HN4.out; omega)]; exact q.at_n ok.out)
  have yf := blk_frozen H5.out (o + 4)
  have hn5 := HN4.out
  go_wp2
  go_ret
  refine ⟨rfl, ?_, K5.out.set_ (p := ⟨b, o + 4, none⟩) (.inl rfl) _⟩
  have h6 := over_put H5.out 4 (.int .i64 ((q.n : Int) + 1)) (by rw [List.length_set, q.len ok.out]; exact hf.out) (by rw [List.length_set, q.len ok.out]; omega)
  rw [q.cs_put ok.out HN4.out] at h6
  exact h6
theorem info_int8 : (Tryz.prog.info? 3).map (·.size) = some 1 := by kernel_rfl
theorem queue_Next (q : Qr) (hq : q.OK) (b o T : Nat) (cur : List Value) (w : World) (hg0 : w.heap[b]? = some (.cells (overAt cur o q.cs).toArray T (0, 0))) (hf0 : o + 5 ≤ cur.length) :
  Calls Tryz.prog 92 #[.pointer (some ⟨b, o, none⟩)] w fun e w' => e = .returned (.agg #[.int .i64 q.next.2.f0, .int .i64 q.next.2.f1]) ∧ w'.heap[b]? = some (.cells (overAt cur o q.next.1.cs).toArray T (0, 0)) ∧ Kp (fun k => k = b) w w' := by
 have ok := am hq
 have HZ := am (blk_new w (.cells #[.int .i64 0, .int .i64 0] 55))
 have HG := am (blk_alloc hg0 (.cells #[.int .i64 0, .int .i64 0] 55))
 have HB := am (b_al w (.cells #[.int .i64 0, .int .i64 0] 55))
 have hbz := am (blk_lt hg0)
 have hf := am hf0
 unfold Qr.next
 by_cases h0 : q.n = 0
 ·have d0 : ((q.n : Int) == 0) = true := by simp [h0]
  rw [if_pos h0]
  clear hq hg0 h0
  go_enter Tryz.func92, Tryz.ntmps92
  go_upto_region 1 with (fail)
  generalize w.alloc (.cells #[.int .i64 0, .int .i64 0] 55) = W1 at *
  have c4 := over_cell HG.out 4 _ (by rw [q.len ok.out]; exact hf.out) (q.at_n ok.out)
  go_wp2_with ((with_reducible refine gate_ (.store 55 (.tmp 2) (.tmp 9)) rfl ?_); refine store_part rfl 55 (.tmp 2) (.tmp 9) rfl (w.heap.size) 0 55 #[.int .i64 1, .int .i64 0] [.int .i64 0, .int .i64 0] rfl rfl HZ.out (by simp) info_item2 (by simp [Value.oneCell']) ?_; intro W9 HG9_ KG_; have HG9 := am HG9_; have KG := am KG_; clear HG9_ KG_)
  exact bodyPost_ret (v := .agg #[.int .i64 1, .int .i64 0]) (results_cell_row Tryz.results92 _ W9 _ _ _ _ _ rfl HG9.out Tryz.underlying55 rfl info_item2) rfl ⟨rfl, KG.out.blk HG.out (by have := hbz.out; omega), Kp.of (below_kp HB.out KG.out (Nat.le_refl _) HB.out.size)⟩
 ·have d0 : ((q.n : Int) == 0) = false := by simp [h0]
  rw [if_neg h0]
  have HN0 := am h0
  clear hq hg0
  go_enter Tryz.func92, Tryz.ntmps92
  go_upto_region 1 with (fail)
  generalize w.alloc (.cells #[.int .i64 0, .int .i64 0] 55) = W1 at *
  have c4 := over_cell HG.out 4 _ (by rw [q.len ok.out]; exact hf.out) (q.at_n ok.out)
  have c0 := over_cell HG.out 0 _ (by rw [q.len ok.out]; exact hf.out) (q.at_l ok.out 0 (by omega))
  rw [Nat.add_zero] at c0
  go_wp2
  obtain ⟨mv, hmv⟩ : ∃ mv, mv = (q.l.drop 1).take (q.n - 1) := ⟨_, rfl⟩
  have hml0 : mv.length = q.n - 1 := by rw [hmv]; have := ok.out.l4; have := ok.out.n4; simp; omega
  have hml := am (show mv.length = q.n - 1 ∧ (mv.map (Value.int .i64) ++ q.cs.drop mv.length).length = 5 ∧ (mv.map (Value.int .i64) ++ q.cs.drop mv.length)[4]? = some (.int .i64 (q.n : Int)) from by
   have h4 := ok.out.n4
   refine ⟨hml0, by rw [List.length_append, List.length_drop, q.len ok.out]; simp [hml0]; omega, ?_⟩
   rw [List.getElem?_append_right (by simp [hml0]; omega), List.getElem?_drop]
   rw [show mv.length + (4 - (mv.map (Value.int .i64)).length) = 4 by simp [hml0]; omega]
   exact q.at_n ok.out)
  have hcp : ∀ ty, (Builtin.copy_ #[22, 22] ty #[.slice (some ⟨b, o, none⟩) 4 4, .slice (some ⟨b, o + 1, none⟩) (q.n - 1) 3]).run Tryz.prog W1.drew = .ok (.int .i64 ((q.n - 1 : Nat) : Int)) (W1.drew.setRow b (overAt cur o (mv.map (Value.int .i64) ++ q.cs.drop mv.length)).toArray) := fun ty => by
   have h4 := ok.out.n4
   have h := run_copy_row (P := Tryz.prog) W1.drew 22 22 ty 3 b o 4 4 ⟨b, o + 1, none⟩ (q.n - 1) 3 (overAt cur o q.cs).toArray _ (mv.map (Value.int .i64)) Tryz.underlying22 info_int8 HG.out (by rw [List.length_map, hml0]; exact (Nat.min_eq_left (by omega)).symm) (fun j v hj => by
    have hj2 : j < mv.length := by have := (List.getElem?_eq_some_iff.1 hj).1; simpa using this
    rw [add_plain_at, Nat.add_assoc]
    refine over_cell (W := W1.drew) HG.out (1 + j) v (by rw [q.len ok.out]; exact hf.out) ?_
    rw [q.at_l ok.out (1 + j) (by omega), ← hj, List.getElem?_map, List.getElem?_eq_getElem hj2]
    have : mv[j]? = some (q.l.getD (1 + j) 0) := by
     rw [hmv, List.getElem?_take_of_lt (by omega), List.getElem?_drop, List.getD_eq_getElem?_getD, List.getElem?_eq_getElem (by have := ok.out.l4; omega)]; rfl
    rw [List.getElem?_eq_getElem hj2] at this
    rw [Option.some.inj this]; rfl) (by rw [List.length_map, hml0]; have := over_len cur o q.cs (by rw [q.len ok.out]; exact hf.out); simp [this]; have := hf.out; omega) (by intro v hv; obtain ⟨x, _, rfl⟩ := List.mem_map.1 hv; rfl)
   rw [h, List.length_map, hml0]
   have e := over_over cur o q.cs (mv.map (Value.int .i64)) (by rw [q.len ok.out]; exact hf.out) (by rw [q.len ok.out]; simp [hml0]; omega)
   rw [List.length_map] at e
   unfold overAt at e ⊢
   rw [List.length_map] at e
   rw [← hml0]
   exact congrArg (fun l : List Value => Result.ok (goInt (mv.length : Nat)) (W1.drew.setRow b l.toArray)) e
  have hq1 : ((1 : Int) ≤ (q.n : Int)) = True := eq_true (by omega)
  have hq2 : ((q.n : Int) ≤ 4) = True := eq_true (by have := ok.out.n4; omega)
  have HN := am (below_drew (Below.refl W1.heap.size W1))
  have HMV := am hmv
  clear hml0 hmv
  refine startB (n := 17) (F := fun _ => False) (ds := [13, 16]) (by kernel_rfl) rfl (fun hHeld => ?_)
  refine plan_ [.p 0 15, .p 1 16, .p 2 17, .p 3 18, .p 4 19, .p 5 20, .p 6 21, .p 7 22, .p 8 23, .p 9 24, .p 10 25, .t 11 26, .p 12 27] ?_
  repeat (first | refine jP ?_ | refine jW hHeld ?_ | refine jG ?_)
  refine planE ?_
  refine jL 13 (some 28) (fun K hK => ?_)
  refine value_ (v := .int .i64 ((q.n - 1 : Nat) : Int)) (w1 := W1.drew.setRow b (overAt cur o (mv.map (Value.int .i64) ++ q.cs.drop mv.length)).toArray) (by rfl) rfl (by go_simp; try rfl) ?_
  have G2 := am (setRow_heap W1.drew b _ (overAt cur o (mv.map (Value.int .i64) ++ q.cs.drop mv.length)).toArray _ _ HG.out)
  have K2 := am ((Kp.of (F := fun k => k = b) HN.out).trans (setRow_kp W1.drew b (overAt cur o (mv.map (Value.int .i64) ++ q.cs.drop mv.length)).toArray))
  generalize W1.drew.setRow b (overAt cur o (mv.map (Value.int .i64) ++ q.cs.drop mv.length)).toArray = W2 at *
  clear hcp hHeld
  refine hK.out _ _ ?_
  clear hK K
  refine jM 28 ?_
  refine plan_ [.p 14 29, .p 15 30] ?_
  repeat (first | refine jP ?_ | refine jW hHeld ?_ | refine jG ?_)
  refine planE ?_
  refine jL 16 none (fun K hK => ?_)
  have y0 := over_cell G2.out 4 (.int .i64 (q.n : Int)) (by rw [hml.out.2.1]; omega) hml.out.2.2
  have yf := blk_frozen G2.out (o + 4)
  refine skip_ (w1 := W2.setCell ⟨b, o + 4, none⟩ (.int .i64 ((q.n - 1 : Nat) : Int))) (by rfl) rfl (by go_simp; try rfl) ?_
  refine hK.out _ _ ?_
  clear hK K
  refine done_ (by kernel_rfl) ?_
  have G3 := over_put G2.out 4 (.int .i64 ((q.n - 1 : Nat) : Int)) (by rw [hml.out.2.1]; exact hf.out) (by rw [hml.out.2.1]; omega)
  rw [HMV.out, show ((q.l.drop 1).take (q.n - 1)).length = q.n - 1 by rw [← HMV.out]; exact hml.out.1, q.cs_next ok.out HN0.out] at G3
  have K3 := am (((Kp.of (F := fun k => k = b) HB.out).trans K2.out).set_ (p := ⟨b, o + 4, none⟩) (.inl rfl) (.int .i64 ((q.n - 1 : Nat) : Int)))
  have H3 := am G3
  have Z3 := am ((K2.out.set_ (p := ⟨b, o + 4, none⟩) (.inl rfl) (.int .i64 ((q.n - 1 : Nat) : Int))).blk HZ.out (by have := hbz.out; omega))
  clear G3 G2 K2 y0 yf c4 c0 HN hq1 hq2 HG HB HZ
  generalize W2.setCell ⟨b, o + 4, none⟩ (.int .i64 ((q.n - 1 : Nat) : Int)) = W3 at *
  go_wp2_with ((with_reducible refine gate_ (.store 55 (.tmp 2) (.tmp 32)) rfl ?_); refine store_part rfl 55 (.tmp 2) (.tmp 32) rfl (w.heap.size) 0 55 #[.int .i64 2, .int .i64 (q.l[0]?.getD 0)] [.int .i64 0, .int .i64 0] rfl rfl Z3.out (by simp) info_item2 (by simp [Value.oneCell']) ?_; intro W9 HG9_ KG_; have HG9 := am HG9_; have KG := am KG_; clear HG9_ KG_)
  refine bodyPost_ret (v := .agg #[.int .i64 2, .int .i64 (q.l[0]?.getD 0)]) (results_cell_row Tryz.results92 _ W9 _ _ _ _ _ rfl HG9.out Tryz.underlying55 rfl info_item2) rfl ⟨rfl, ?_, K3.out.trans' KG.out (Nat.le_refl _)⟩
  have hfin := KG.out.blk H3.out (by have := hbz.out; omega)
  rw [List.drop_one] at hfin
  exact hfin
end Go.Proofs.YtgcgglmmfgmaoaaGreat.PK
end
section
namespace Go.Proofs.YtgcgglmmfgmaoaaGreat.PK
open Go Go.RowKit Go.Proofs.YtgcgglmmfgmaoaaGreatW.PrintWords Go.Proofs.YtgcgglmmfgmaoaaGreatW.PrintLast Go.Proofs.YtgcgglmmfgmaoaaGreatW.PrintMore
attribute [local go_sem] max2_int min2_int max_two min_two
theorem fault_told (c : Cf) (hc : c.OK) (round slot : Int) (hr0 : 0 ≤ round) (hr1 : round ≤ 1000000) (base : List UInt8) (hl : base.length ≤ 900) (A : Option Addr) (m : Nat) (w : World) (hr : c.C w A m) :
  Calls Tryz.prog 161 #[c.v A m, .int .i64 round, .int .i64 slot, .string (S base)] w (TdR (toldL c round slot base) w) := by
 unfold toldL
 cases hf : readL c base with
 | none =>
  refine told_new c hc round slot hr0 hr1 base A m w hr (fun W hW => (read_no c hc base hl hf A m W hW).mono fun e w' h => ?_)
  obtain ⟨⟨k, hk, rfl⟩, hb⟩ := h
  exact ⟨0, 0, 0, 0, 0, k, none, 0, 0, rfl, .inl (by simpa using hk), hb⟩
 | some f =>
  by_cases h3 : f.f0 = 3
  ·simp only [h3, if_true]
   exact told_keep c hc round slot base hl f hf h3 A m w hr
  ·simp only [h3, if_false]
   refine told_new c hc round slot hr0 hr1 base A m w hr (fun W hW => (read_yes c hc base hl f hf A m W hW).mono fun e w' h => ?_)
   obtain ⟨⟨v, rfl, hR⟩, hb⟩ := h
   obtain ⟨A1, c1, rfl⟩ := Kd.R_slice hR
   exact ⟨f.f0, f.f1, f.f2, f.f3.f0, f.f3.f1, 0, A1, _, c1, rfl, .inr ⟨rfl, by simpa using h3⟩, hb⟩
theorem slots_range {c : Cf} (hc : c.OK) : 6 ≤ c.slots ∧ c.slots ≤ 15 := by
 have := hc.n6; have := hc.n12; have := hc.l3
 unfold Cf.slots
 omega
theorem frErr_len {c : Cf} (hc : c.OK) {f : S117} (h : frErr c f = 0) : f.f4.length ≤ 15 := by
 have hs := slots_range hc
 have he : frEchoes c f.f0 f.f2 ≤ 15 := by unfold frEchoes; split <;> omega
 unfold frErr at h
 repeat' split at h
 all_goals omega
theorem readL_len {c : Cf} (hc : c.OK) {base : List UInt8} {f : S117} (h : readL c base = some f) : f.f4.length ≤ 15 := by
 unfold readL at h
 cases ho : openL base with
 | none => rw [ho] at h; simp at h
 | some b =>
  rw [ho, Option.bind_some] at h
  unfold readBits at h
  split at h
  ·simp at h
  ·split at h
   ·simp at h
   ·split at h
    ·simp at h
    ·rename_i h3
     obtain rfl := Option.some.inj h
     exact frErr_len hc (by simpa using h3)
theorem toldL_len {c : Cf} (hc : c.OK) (round slot : Int) (base : List UInt8) : (toldL c round slot base).f4.length ≤ 15 := by
 have hs := slots_range hc
 have hn : (if slot < c.n then List.replicate c.slots.toNat (⟨1, 0⟩ : S55) else []).length ≤ 15 := by
  split
  ·simp; omega
  ·simp
 unfold toldL
 cases hf : readL c base with
 | none => exact hn
 | some f =>
  by_cases h3 : f.f0 = 3
  ·simp only [h3, if_true]; exact readL_len hc hf
  ·simp only [h3, if_false]; exact hn
theorem text_len (f : S117) : (textL_ f).length = 51 + 10 * f.f4.length := by
 unfold textL_
 rw [List.length_append, wrapL_length, frameL_len]
 simp; omega
theorem doneL_len {c : Cf} (hc : c.OK) (x : S83) (hx : x.f2.size ≤ 900) (round slot : Int) (base : List UInt8) (hl : base.length ≤ 900) : (doneL c x round slot base).length ≤ 900 := by
 have ht := toldL_len hc round slot base
 unfold doneL
 split
 ·exact hl
 ·split
  ·rw [List.length_take]; omega
  ·split
   ·refine Nat.le_trans (cleanL_le _) ?_
    simpa using hx
   ·split
    ·refine Nat.le_trans (cleanL_le _) ?_
     split
     ·exact hl
     ·rw [turnL_length]; exact hl
    ·split
     ·rw [text_len]; simp only; omega
     ·split
      ·rw [text_len]; simp only [List.length_replicate]; omega
      ·simp
theorem pickN7 (n : Int) : pickN n 7 = 0 ∨ pickN n 7 = 1 ∨ pickN n 7 = 2 ∨ pickN n 7 = 3 ∨ pickN n 7 = 4 ∨ pickN n 7 = 5 ∨ pickN n 7 = 6 := by
 unfold pickN
 rw [if_neg (by omega)]
 omega
theorem S_of (b : ByteArray) : b = S b.data.toList := by simp
theorem cells3 {W : World} {g T : Nat} {a b c : Value} (h : W.heap[g]? = some (.cells #[a, b, c] T (0, 0))) : W.cell? ⟨g, 0, none⟩ = some a ∧ W.cell? ⟨g, 1, none⟩ = some b ∧ W.cell? ⟨g, 2, none⟩ = some c := ⟨(blk_cell h 0).trans rfl, (blk_cell h 1).trans rfl, (blk_cell h 2).trans rfl⟩
theorem done_calls (c : Cf) (hc : c.OK) (x : S83) (hx : x.f2.size ≤ 900) (round slot : Int) (hr0 : 0 ≤ round) (hr1 : round ≤ 1000000) (base : List UInt8) (hl : base.length ≤ 900) (A : Option Addr) (m : Nat) (w : World) (hr : c.C w A m) :
  Calls Tryz.prog 149 #[c.v A m, .agg #[.int .i64 x.f0, .int .i64 x.f1, .string x.f2], .int .i64 round, .int .i64 slot, .string (S base)] w fun e w' => e = .returned (.string (S (doneL c x round slot base))) ∧ Below w.heap.size w w' := by
 have KP := am (fun n many W h => fault_pick_calls n many h W)
 have KT := am (fun W hW => fault_told c hc round slot hr0 hr1 base hl A m W hW)
 have hfl := am (toldL_len hc round slot base)
 have hr := am hr
 have hl := am hl
 have hx := am hx
 have h7 := am (pickN7 x.f0)
 generalize hres : doneL c x round slot base = res
 have HR := am hres
 clear hres hc hr0 hr1
 generalize hft : toldL c round slot base = ft at *
 have HFT := am hft
 clear hft
 go_enter Tryz.func149, Tryz.ntmps149
 go_upto_region 1 with (fail)
 have HB := am (b_tr (b_al w (.cells #[.int .i64 c.n, .int .i64 c.pi, .int .i64 c.e, .int .i64 c.g, .int .i64 c.first, .slice A c.pairs.length m] 24)) (b_al _ (.cells #[.int .i64 x.f0, .int .i64 x.f1, .string x.f2] 83)))
 have HCB := am (blk_alloc (blk_new w (.cells #[.int .i64 c.n, .int .i64 c.pi, .int .i64 c.e, .int .i64 c.g, .int .i64 c.first, .slice A c.pairs.length m] 24)) (.cells #[.int .i64 x.f0, .int .i64 x.f1, .string x.f2] 83))
 have HAB := am (blk_new (w.alloc (.cells #[.int .i64 c.n, .int .i64 c.pi, .int .i64 c.e, .int .i64 c.g, .int .i64 c.first, .slice A c.pairs.length m] 24)) (.cells #[.int .i64 x.f0, .int .i64 x.f1, .string x.f2] 83))
 rw [← size_al_] at HAB
 generalize (w.alloc (.cells #[.int .i64 c.n, .int .i64 c.pi, .int .i64 c.e, .int .i64 c.g, .int .i64 c.first, .slice A c.pairs.length m] 24)).alloc (.cells #[.int .i64 x.f0, .int .i64 x.f1, .string x.f2] 83) = W0 at *
 have aa := cells3 HAB.out
 go_upto_region 2 with (go_at_call 123; refine (KP.out _ _ _ (by omega)).mono ?_; rintro e W1 ⟨rfl, hb⟩; have q0_ := am (b_tr HB.out hb); have q1_ := am (blk_below HCB.out hb); have q2_ := am (blk_below HAB.out hb); clear HB HCB HAB hb; have HB := q0_; have HCB := q1_; have HAB := q2_; clear q0_ q1_ q2_; clear aa)
 obtain ⟨pv, hpv⟩ : ∃ pv, pv = pickN x.f1 256 := ⟨_, rfl⟩
 rw [← hpv]
 have HPV := am hpv
 clear hpv
 have hib := am HB.out.size
 have HIB := am (blk_new W1 (.cells #[.int .i64 2, .int .i64 pv] 55))
 have q0_ := am (b_tr HB.out (b_al W1 (.cells #[.int .i64 2, .int .i64 pv] 55)))
 have q1_ := am (blk_alloc HCB.out (.cells #[.int .i64 2, .int .i64 pv] 55))
 have q2_ := am (blk_alloc HAB.out (.cells #[.int .i64 2, .int .i64 pv] 55))
 clear HB HCB HAB
 have HB := q0_
 have HCB := q1_
 have HAB := q2_
 clear q0_ q1_ q2_
 generalize W1.alloc (.cells #[.int .i64 2, .int .i64 pv] 55) = W2 at *
 generalize W1.heap.size = ib at *
 have aa := cells3 HAB.out
 go_upto_region 3 with (go_at_call 123; refine (KP.out _ _ _ (by omega)).mono ?_; rintro e W3 ⟨rfl, hb⟩; have q0_ := am (b_tr HB.out hb); have q1_ := am (blk_below HCB.out hb); have q2_ := am (blk_below HAB.out hb); have q3_ := am (blk_below HIB.out hb); clear HB HCB HAB HIB hb; have HB := q0_; have HCB := q1_; have HAB := q2_; have HIB := q3_; clear q0_ q1_ q2_ q3_; clear aa)
 have aa := cells3 HAB.out
 generalize hhv : pickN x.f0 7 = hv at *
 have HV := am hhv
 clear hhv
 rcases h7.out with rfl | rfl | rfl | rfl | rfl | rfl | rfl
 ·clear KP KT hr
  go_wp2
  go_ret
  refine ⟨?_, HB.out⟩
  rw [← HR.out]; unfold doneL; rw [HV.out]; rfl
 ·clear KP KT hr
  go_wp2
  go_ret
  refine ⟨?_, HB.out⟩
  rw [← HR.out]; unfold doneL; rw [HV.out]; rfl
 ·have hp := pickN_range x.f1 ((base.length : Int) + 1)
  obtain ⟨k, hk⟩ : ∃ k : Nat, pickN x.f1 ((base.length : Int) + 1) = k := ⟨(pickN x.f1 ((base.length : Int) + 1)).toNat, by omega⟩
  have K2 := fun W => KP.out x.f1 ((base.length : Int) + 1) W (by have := hl.out; omega)
  rw [hk] at K2
  have hsz := S_size base
  have hl9 := hl.out
  have hq0 : ((k : Int) ≤ (base.length : Int)) = True := eq_true (by omega)
  have hq1 : (k ≤ base.length) = True := eq_true (by omega)
  have HK := am hk
  have hst := S_take base k
  clear KT hr KP hp hk
  go_wp2_with (go_at_call 123; refine (K2 _).mono ?_; rintro e W4 ⟨rfl, hb⟩; have q0_ := am (b_tr HB.out hb); have q1_ := am (blk_below HCB.out hb); have q2_ := am (blk_below HAB.out hb); have q3_ := am (blk_below HIB.out hb); clear HB HCB HAB HIB hb; have HB := q0_; have HCB := q1_; have HAB := q2_; have HIB := q3_; clear q0_ q1_ q2_ q3_)
  go_ret
  refine ⟨?_, HB.out⟩
  rw [← HR.out]; unfold doneL; rw [HV.out, HK.out]; rfl
 ·have KC := fun W => sym_Clean.calls x.f2 _ W ((congrArg sym_Clean.f (S_of x.f2)).trans (sym_Clean_eq x.f2.data.toList (Nat.le_trans (show x.f2.data.toList.length ≤ 900 from by simpa using hx.out) (by omega))))
  clear KT hr KP
  go_wp2_with (go_at_call 137; refine (KC _).mono ?_; rintro e W4 ⟨rfl, hb⟩; have q0_ := am (b_tr HB.out hb); have q1_ := am (blk_below HCB.out hb); have q2_ := am (blk_below HAB.out hb); have q3_ := am (blk_below HIB.out hb); clear HB HCB HAB HIB hb; have HB := q0_; have HCB := q1_; have HAB := q2_; have HIB := q3_; clear q0_ q1_ q2_ q3_)
  go_ret
  refine ⟨?_, HB.out⟩
  rw [← HR.out]; unfold doneL; rw [HV.out]; rfl
 ·have hp := pickN_range x.f1 (base.length : Int)
  have K2 := fun W => KP.out x.f1 (base.length : Int) W (by have := hl.out; omega)
  have KTu := fun W => sym_Turn.calls (S base) (pickN x.f1 (base.length : Int)) (S (if base.length = 0 then base else turnL base (pickN x.f1 base.length).toNat)) W (by
   rcases hp with ⟨h1, h2⟩ | ⟨h1, h2⟩
   ·rw [if_pos (by omega)]; exact sym_Turn_out base _ (.inl h1)
   ·rw [if_neg (by omega)]
    obtain ⟨k, hk⟩ : ∃ k : Nat, pickN x.f1 (base.length : Int) = k := ⟨(pickN x.f1 (base.length : Int)).toNat, by omega⟩
    rw [hk]
    exact sym_Turn_eq base k (by omega))
  have KC := fun W => sym_Clean.calls (S (if base.length = 0 then base else turnL base (pickN x.f1 base.length).toNat)) _ W (sym_Clean_eq _ (by
   have := hl.out
   split
   ·omega
   ·rw [turnL_length]; omega))
  have hsz := S_size base
  have hrr : cleanL (if base.length = 0 then base else turnL base (pickN x.f1 base.length).toNat) = res := by
   rw [← HR.out]; unfold doneL; rw [HV.out]; rfl
  rw [hrr] at KC
  generalize (if base.length = 0 then base else turnL base (pickN x.f1 base.length).toNat) = tu at *
  generalize pickN x.f1 (base.length : Int) = pk at *
  clear KT hr KP hp hrr
  go_wp2_with (first
   | (go_at_call 123; refine (K2 _).mono ?_; rintro e W4 ⟨rfl, hb⟩; have q0_ := am (b_tr HB.out hb); have q1_ := am (blk_below HCB.out hb); have q2_ := am (blk_below HAB.out hb); have q3_ := am (blk_below HIB.out hb); clear HB HCB HAB HIB hb; have HB := q0_; have HCB := q1_; have HAB := q2_; have HIB := q3_; clear q0_ q1_ q2_ q3_)
   | (go_at_call 160; refine (KTu _).mono ?_; rintro e W5 ⟨rfl, hb⟩; have q0_ := am (b_tr HB.out hb); have q1_ := am (blk_below HCB.out hb); have q2_ := am (blk_below HAB.out hb); have q3_ := am (blk_below HIB.out hb); clear HB HCB HAB HIB hb; have HB := q0_; have HCB := q1_; have HAB := q2_; have HIB := q3_; clear q0_ q1_ q2_ q3_)
   | (go_at_call 137; refine (KC _).mono ?_; rintro e W6 ⟨rfl, hb⟩; have q0_ := am (b_tr HB.out hb); have q1_ := am (blk_below HCB.out hb); have q2_ := am (blk_below HAB.out hb); have q3_ := am (blk_below HIB.out hb); clear HB HCB HAB HIB hb; have HB := q0_; have HCB := q1_; have HAB := q2_; have HIB := q3_; clear q0_ q1_ q2_ q3_))
  go_ret
  exact ⟨rfl, HB.out⟩
 ·have cc := cells6 HCB.out
  go_upto_region 13 with (go_at_call 161; refine (KT.out _ (hr.out.below HB.out)).mono ?_; rintro e W4 ⟨⟨v5, rfl, hR⟩, hb⟩; obtain ⟨A5, m5, hv5, _⟩ := id hR; subst hv5; have HRt := am hR; clear hR; have q0_ := am (b_tr HB.out hb); have q1_ := am (blk_below HCB.out hb); have q2_ := am (blk_below HAB.out hb); have q3_ := am (blk_below HIB.out hb); clear HB HCB HAB HIB hb; have HB := q0_; have HCB := q1_; have HAB := q2_; have HIB := q3_; clear q0_ q1_ q2_ q3_; clear aa cc; have lt4 := am (And.intro HB.out.size (And.intro (blk_lt HCB.out) (And.intro (blk_lt HAB.out) (blk_lt HIB.out)))); try unfold frV)
  have q9_ := am (HRt.out.below (b_al W4 (.cells #[.int .i64 ft.f0, .int .i64 ft.f1, .int .i64 ft.f2, .int .i64 ft.f3.f0, .int .i64 ft.f3.f1, .slice A5 ft.f4.length m5] 117)))
  clear HRt
  have FR := am (blk_new W4 (.cells #[.int .i64 ft.f0, .int .i64 ft.f1, .int .i64 ft.f2, .int .i64 ft.f3.f0, .int .i64 ft.f3.f1, .slice A5 ft.f4.length m5] 117))
  have q0_ := am (b_tr HB.out (b_al W4 (.cells #[.int .i64 ft.f0, .int .i64 ft.f1, .int .i64 ft.f2, .int .i64 ft.f3.f0, .int .i64 ft.f3.f1, .slice A5 ft.f4.length m5] 117)))
  have q1_ := am (blk_alloc HCB.out (.cells #[.int .i64 ft.f0, .int .i64 ft.f1, .int .i64 ft.f2, .int .i64 ft.f3.f0, .int .i64 ft.f3.f1, .slice A5 ft.f4.length m5] 117))
  have q2_ := am (blk_alloc HAB.out (.cells #[.int .i64 ft.f0, .int .i64 ft.f1, .int .i64 ft.f2, .int .i64 ft.f3.f0, .int .i64 ft.f3.f1, .slice A5 ft.f4.length m5] 117))
  have q3_ := am (blk_alloc HIB.out (.cells #[.int .i64 ft.f0, .int .i64 ft.f1, .int .i64 ft.f2, .int .i64 ft.f3.f0, .int .i64 ft.f3.f1, .slice A5 ft.f4.length m5] 117))
  clear HB HCB HAB HIB
  have HB := q0_
  have HCB := q1_
  have HAB := q2_
  have HIB := q3_
  clear q0_ q1_ q2_ q3_
  generalize W4.alloc (.cells #[.int .i64 ft.f0, .int .i64 ft.f1, .int .i64 ft.f2, .int .i64 ft.f3.f0, .int .i64 ft.f3.f1, .slice A5 ft.f4.length m5] 117) = W5 at *
  have HRt := q9_
  clear q9_
  have FZ := am (show W4.heap.size ≠ w.heap.size ∧ W4.heap.size ≠ w.heap.size + 1 ∧ W4.heap.size ≠ ib ∧ w.heap.size ≤ W4.heap.size from ⟨by have := lt4.out; omega, by have := lt4.out; omega, by have := lt4.out; omega, by have := lt4.out; omega⟩)
  generalize W4.heap.size = fb at *
  have ii := cells2 HIB.out
  go_upto_region 14 with ((with_reducible refine gate_ (.store 55 (.tmp 57) (.tmp 56)) rfl ?_); refine store_part rfl 55 (.tmp 57) (.tmp 56) rfl (fb) 3 117 #[.int .i64 2, .int .i64 pv] [.int .i64 ft.f0, .int .i64 ft.f1, .int .i64 ft.f2, .int .i64 ft.f3.f0, .int .i64 ft.f3.f1, .slice A5 ft.f4.length m5] rfl rfl FR.out (by simp) info_item2 (by simp [Value.oneCell']) ?_; intro W6 HF_ KF_; have HF := am HF_; have KF := am KF_; clear HF_ KF_)
  have n1 := am (KF.out.blk HCB.out (fun e => FZ.out.1 e.symm))
  have n2 := am (HB.out.trans (KF.out.below HB.out.size (fun i hi e => by have := FZ.out; omega)))
  have n3 := am (RdT.kp plain_item HRt.out KF.out (fun k cells hk hx => by subst hk; rw [FR.out] at hx; simp at hx))
  have FR2 := am (show W6.heap[fb]? = some (.cells #[.int .i64 ft.f0, .int .i64 ft.f1, .int .i64 ft.f2, .int .i64 2, .int .i64 pv, .slice A5 ft.f4.length m5] 117 (0, 0)) from HF.out)
  clear HCB HB HRt FR HF KF KT KP hr ii
  have cc := cells6 n1.out
  have ff := cells6 FR2.out
  have KX := frame_Text #[.int .i64 c.n, .int .i64 c.pi, .int .i64 c.e, .int .i64 c.g, .int .i64 c.first, .slice A c.pairs.length m] ⟨_, _, _, _, _, _, rfl⟩ { ft with f3 := ⟨2, pv⟩ } A5 m5 (by have := hfl.out; show ft.f4.length ≤ 80; omega) W6 n3.out.C.1 n3.out.C.2
  go_wp2_with (go_at_call 69; refine KX.mono ?_; rintro e W7 ⟨rfl, hb⟩; have HBX := am (b_tr n2.out hb); clear hb)
  go_ret
  refine ⟨?_, HBX.out⟩
  rw [← HR.out]; unfold doneL; rw [HV.out, HFT.out, ← HPV.out]; rfl
 ·have cc := cells6 HCB.out
  go_upto_region 17 with (go_at_call 161; refine (KT.out _ (hr.out.below HB.out)).mono ?_; rintro e W4 ⟨⟨v5, rfl, hR⟩, hb⟩; obtain ⟨A5, m5, hv5, _⟩ := id hR; subst hv5; have HRt := am hR; clear hR; have q0_ := am (b_tr HB.out hb); have q1_ := am (blk_below HCB.out hb); have q2_ := am (blk_below HAB.out hb); have q3_ := am (blk_below HIB.out hb); clear HB HCB HAB HIB hb; have HB := q0_; have HCB := q1_; have HAB := q2_; have HIB := q3_; clear q0_ q1_ q2_ q3_; clear aa cc; have lt4 := am (And.intro HB.out.size (And.intro (blk_lt HCB.out) (And.intro (blk_lt HAB.out) (blk_lt HIB.out)))); try unfold frV)
  have q9_ := am (HRt.out.below (b_al W4 (.cells #[.int .i64 ft.f0, .int .i64 ft.f1, .int .i64 ft.f2, .int .i64 ft.f3.f0, .int .i64 ft.f3.f1, .slice A5 ft.f4.length m5] 117)))
  clear HRt
  have FR := am (blk_new W4 (.cells #[.int .i64 ft.f0, .int .i64 ft.f1, .int .i64 ft.f2, .int .i64 ft.f3.f0, .int .i64 ft.f3.f1, .slice A5 ft.f4.length m5] 117))
  have q0_ := am (b_tr HB.out (b_al W4 (.cells #[.int .i64 ft.f0, .int .i64 ft.f1, .int .i64 ft.f2, .int .i64 ft.f3.f0, .int .i64 ft.f3.f1, .slice A5 ft.f4.length m5] 117)))
  have q1_ := am (blk_alloc HCB.out (.cells #[.int .i64 ft.f0, .int .i64 ft.f1, .int .i64 ft.f2, .int .i64 ft.f3.f0, .int .i64 ft.f3.f1, .slice A5 ft.f4.length m5] 117))
  have q2_ := am (blk_alloc HAB.out (.cells #[.int .i64 ft.f0, .int .i64 ft.f1, .int .i64 ft.f2, .int .i64 ft.f3.f0, .int .i64 ft.f3.f1, .slice A5 ft.f4.length m5] 117))
  have q3_ := am (blk_alloc HIB.out (.cells #[.int .i64 ft.f0, .int .i64 ft.f1, .int .i64 ft.f2, .int .i64 ft.f3.f0, .int .i64 ft.f3.f1, .slice A5 ft.f4.length m5] 117))
  clear HB HCB HAB HIB
  have HB := q0_
  have HCB := q1_
  have HAB := q2_
  have HIB := q3_
  clear q0_ q1_ q2_ q3_
  generalize W4.alloc (.cells #[.int .i64 ft.f0, .int .i64 ft.f1, .int .i64 ft.f2, .int .i64 ft.f3.f0, .int .i64 ft.f3.f1, .slice A5 ft.f4.length m5] 117) = W5 at *
  have HRt := q9_
  clear q9_
  have FZ := am (show W4.heap.size ≠ w.heap.size ∧ W4.heap.size ≠ w.heap.size + 1 ∧ W4.heap.size ≠ ib ∧ w.heap.size ≤ W4.heap.size from ⟨by have := lt4.out; omega, by have := lt4.out; omega, by have := lt4.out; omega, by have := lt4.out; omega⟩)
  generalize W4.heap.size = fb at *
  have ii := cells2 HIB.out
  have ff := cells6 FR.out
  have JB := am (cells2 (blk_new W5 (.cells #[.int .i64 2, .int .i64 pv] 55)))
  have fa := cells6 (blk_alloc FR.out (.cells #[.int .i64 2, .int .i64 pv] 55))
  go_upto_region 18 with (go_at_call 162; refine (repeat_item ⟨2, pv⟩ ft.f4.length (by have := hfl.out; omega) W5.heap.size _ JB.out.1 JB.out.2).mono ?_; rintro e W6 ⟨g6, rfl, hg6, hz6, hb6⟩; have G6 := am hg6; have n1 := am (b_tr (b_al W5 (.cells #[.int .i64 2, .int .i64 pv] 55)) hb6); have Z6 := am (show W5.heap.size ≤ g6 by simp at hz6; omega); clear hg6 hb6 hz6 JB ff ii fa; have y0 := (blk_cell (blk_below FR.out n1.out) 5).trans rfl; have yf := blk_frozen (blk_below FR.out n1.out) 5)
  have hz := n1.out.size
  have n2 := am ((b_tr HB.out n1.out).setCell (p := ⟨fb, 5, none⟩) FZ.out.2.2.2 (.slice (some ⟨g6, 0, none⟩) ft.f4.length ft.f4.length))
  have n3 := am ((Below.heap_setCell W6 ⟨fb, 5, none⟩ (.slice (some ⟨g6, 0, none⟩) ft.f4.length ft.f4.length) w.heap.size (fun e => FZ.out.1 e.symm)).trans (blk_below HCB.out n1.out))
  have n4 := am (blk_put (blk_below FR.out n1.out) 5 (.slice (some ⟨g6, 0, none⟩) ft.f4.length ft.f4.length) (cs' := #[.int .i64 ft.f0, .int .i64 ft.f1, .int .i64 ft.f2, .int .i64 ft.f3.f0, .int .i64 ft.f3.f1, .slice (some ⟨g6, 0, none⟩) ft.f4.length ft.f4.length]) (by simp))
  have n5 := am ((Below.heap_setCell W6 ⟨fb, 5, none⟩ (.slice (some ⟨g6, 0, none⟩) ft.f4.length ft.f4.length) g6 (by have := blk_lt FR.out; have := Z6.out; show g6 ≠ fb; omega)).trans G6.out)
  clear y0 yf HB HCB HAB HIB FR KT KP hr HRt G6 hz n1
  generalize W6.setCell ⟨fb, 5, none⟩ (.slice (some ⟨g6, 0, none⟩) ft.f4.length ft.f4.length) = W7 at *
  have cc := cells6 n3.out
  have ff := cells6 n4.out
  have hRX := am (show Kd.C k55 W7 (some ⟨g6, 0, none⟩) ft.f4.length (List.replicate ft.f4.length ⟨2, pv⟩) by
   obtain ⟨A', m', e, _, hC, _⟩ := RdT.reps (x := ⟨2, pv⟩) n5.out (by have := hfl.out; omega)
   injection e with e1 e2 e3
   rw [← e1, List.length_replicate] at hC
   exact hC)
  have KX := frame_Text #[.int .i64 c.n, .int .i64 c.pi, .int .i64 c.e, .int .i64 c.g, .int .i64 c.first, .slice A c.pairs.length m] ⟨_, _, _, _, _, _, rfl⟩ { ft with f4 := List.replicate ft.f4.length ⟨2, pv⟩ } (some ⟨g6, 0, none⟩) ft.f4.length (by have := hfl.out; simp; omega) W7 (by rw [List.length_replicate]; exact hRX.out) (by simp)
  rw [show ({ ft with f4 := List.replicate ft.f4.length ⟨2, pv⟩ } : S117).f4.length = ft.f4.length by simp] at KX
  go_wp2_with (go_at_call 69; refine KX.mono ?_; rintro e W8 ⟨rfl, hb⟩; have HBX := am (b_tr n2.out hb); clear hb)
  go_ret
  refine ⟨?_, HBX.out⟩
  rw [← HR.out]; unfold doneL; rw [HV.out, HFT.out, ← HPV.out]; rfl
end Go.Proofs.YtgcgglmmfgmaoaaGreat.PK
end
section
namespace Go.Proofs.YtgcgglmmfgmaoaaGreat.PK
open Go Go.RowKit Go.Proofs.YtgcgglmmfgmaoaaGreatW.PrintWords Go.Proofs.YtgcgglmmfgmaoaaGreatW.PrintLast Go.Proofs.YtgcgglmmfgmaoaaGreatW.PrintMore
attribute [local go_sem] max2_int min2_int max_two min_two
structure Sc where
 on : List Int
 drifts : List Int
 errs : List Int
 calls : List S52
 f : Ft
 rounds : Int
structure ScA where
 Ao : Option Addr
 mo : Nat
 Ad : Option Addr
 md : Nat
 Ae : Option Addr
 me : Nat
 Ac : Option Addr
 mc : Nat
 AA : Option Addr
 ma : Nat
 AD : Option Addr
 mD : Nat
abbrev Sc.v (s : Sc) (a : ScA) : Value := .agg #[.slice a.Ao s.on.length a.mo, .slice a.Ad s.drifts.length a.md, .slice a.Ae s.errs.length a.me, .slice a.Ac s.calls.length a.mc, .int .i64 s.f.kind, .int .i64 s.f.at_, .int .i64 s.f.frm, .int .i64 s.f.to_, .slice a.AA s.f.acts.length a.ma, .slice a.AD s.f.devs.length a.mD, .int .i64 s.rounds]
structure Sc.C (s : Sc) (w : World) (a : ScA) : Prop where
 on : Kd.C (Kd.int .i64) w a.Ao s.on.length s.on ∧ s.on.length ≤ a.mo
 dr : Kd.C (Kd.int .i64) w a.Ad s.drifts.length s.drifts ∧ s.drifts.length ≤ a.md
 er : Kd.C (Kd.int .i64) w a.Ae s.errs.length s.errs ∧ s.errs.length ≤ a.me
 ca : Kd.C k52 w a.Ac s.calls.length s.calls ∧ s.calls.length ≤ a.mc
 f : s.f.C w a.AA a.ma a.AD a.mD
theorem Sc.C.below {s : Sc} {w W : World} {a : ScA} (h : s.C w a) (hb : Below w.heap.size w W) : s.C W a := ⟨⟨Kd.C_below h.on.1 hb, h.on.2⟩, ⟨Kd.C_below h.dr.1 hb, h.dr.2⟩, ⟨Kd.C_below h.er.1 hb, h.er.2⟩, ⟨Kd.C_below h.ca.1 hb, h.ca.2⟩, h.f.below hb⟩
structure Ft.OK (f : Ft) (c : Cf) : Prop where
 k0 : 0 ≤ f.kind
 k1 : f.kind ≤ 2
 a0 : 0 ≤ f.at_
 a1 : f.at_ < (if f.kind = 1 then c.n else if f.kind = 2 then 2 * c.n else 1)
 f0 : 0 ≤ f.frm
 t1 : f.to_ ≤ 1000
 ft : f.frm ≤ f.to_
 la : f.acts.length ≤ 40
 ld : f.devs.length ≤ 40
 tx : ∀ x ∈ f.acts, x.f2.size ≤ 900
def callB (c : Cf) (x : S52) : Bool := inB x.f0 0 200 && inB x.f1 0 (c.n - 1) && inB x.f2 0 c.pairs.length
structure Sc.OK (s : Sc) (c : Cf) : Prop where
 r0 : 0 ≤ s.rounds
 r1 : s.rounds ≤ 200
 on : s.on.length = c.n
 dr : s.drifts.length ≤ 60
 er : s.errs.length ≤ 60
 ca : s.calls.length ≤ 100
 ov : ∀ x ∈ s.on, -1 ≤ x ∧ x ≤ 200
 cv : ∀ x ∈ s.calls, callB c x = true
 f : s.f.OK c
theorem cells11 {W : World} {g T : Nat} {a b c d e f h i j k l : Value} (hh : W.heap[g]? = some (.cells #[a, b, c, d, e, f, h, i, j, k, l] T (0, 0))) : W.cell? ⟨g, 0, none⟩ = some a ∧ W.cell? ⟨g, 1, none⟩ = some b ∧ W.cell? ⟨g, 2, none⟩ = some c ∧ W.cell? ⟨g, 3, none⟩ = some d ∧ W.cell? ⟨g, 4, none⟩ = some e ∧ W.cell? ⟨g, 5, none⟩ = some f ∧ W.cell? ⟨g, 6, none⟩ = some h ∧ W.cell? ⟨g, 7, none⟩ = some i ∧ W.cell? ⟨g, 8, none⟩ = some j ∧ W.cell? ⟨g, 9, none⟩ = some k ∧ W.cell? ⟨g, 10, none⟩ = some l := ⟨(blk_cell hh 0).trans rfl, (blk_cell hh 1).trans rfl, (blk_cell hh 2).trans rfl, (blk_cell hh 3).trans rfl, (blk_cell hh 4).trans rfl, (blk_cell hh 5).trans rfl, (blk_cell hh 6).trans rfl, (blk_cell hh 7).trans rfl, (blk_cell hh 8).trans rfl, (blk_cell hh 9).trans rfl, (blk_cell hh 10).trans rfl⟩
theorem sc_in (a l m : Int) (w : World) :
  Calls Tryz.prog 59 #[.int .i64 a, .int .i64 l, .int .i64 m] w fun e w' => e = .returned (.bool (inB a l m)) ∧ w' = w := by
 unfold inB
 by_cases h : l ≤ a
 ·rw [decide_eq_true h, Bool.true_and]
  go_enter Tryz.func59, Tryz.ntmps59
  go_wp2
  go_ret
  exact ⟨rfl, rfl⟩
 ·have hb : decide (l ≤ a) = false := decide_eq_false h
  rw [hb, Bool.false_and]
  clear h
  go_enter Tryz.func59, Tryz.ntmps59
  go_wp2
  go_ret
  exact ⟨rfl, rfl⟩
theorem sc_on (x : Int) (w : World) : Calls Tryz.prog 58 #[.int .i64 x] w fun e w' => e = .returned (.bool (!inB x (-1) 200)) ∧ Below w.heap.size w w' := by
 have KI := fun W => sc_in x (-1) 200 W
 generalize inB x (-1) 200 = b at KI ⊢
 go_enter Tryz.func58, Tryz.ntmps58
 go_wp2_with (go_at_call 59; with_reducible refine (KI _).mono ?_; rintro e W ⟨rfl, rfl⟩)
 go_ret
 exact ⟨rfl, Below.refl _ _⟩
theorem ft_text (x : S83) (w : World) : Calls Tryz.prog 87 #[.agg #[.int .i64 x.f0, .int .i64 x.f1, .string x.f2]] w fun e w' => e = .returned (.bool (decide (1000 < (x.f2.size : Int)))) ∧ Below w.heap.size w w' := by
 have HB := am (b_al w (.cells #[.int .i64 x.f0, .int .i64 x.f1, .string x.f2] 83))
 go_enter Tryz.func87, Tryz.ntmps87
 go_wp2
 go_ret
 exact ⟨rfl, HB.out⟩
theorem ft_places (c : Cf) (hn : 0 ≤ c.n ∧ c.n ≤ 1000) (kind : Int) (A : Option Addr) (m : Nat) (w : World) : Calls Tryz.prog 85 #[c.v A m, .int .i64 kind] w fun e w' => e = .returned (.int .i64 (if kind = 1 then c.n else if kind = 2 then 2 * c.n else 1)) ∧ Below w.heap.size w w' := by
 have HB := am (b_al w (.cells #[.int .i64 c.n, .int .i64 c.pi, .int .i64 c.e, .int .i64 c.g, .int .i64 c.first, .slice A c.pairs.length m] 24))
 obtain ⟨h0, h1⟩ := hn
 by_cases k1 : kind = 1
 ·have b1 : (kind == 1) = true := by simpa using k1
  rw [if_pos k1]
  clear k1
  go_enter Tryz.func85, Tryz.ntmps85
  go_wp2
  go_ret
  exact ⟨rfl, HB.out⟩
 ·have b1 : (kind == 1) = false := by simpa using k1
  rw [if_neg k1]
  by_cases k2 : kind = 2
  ·have b2 : (kind == 2) = true := by simpa using k2
   rw [if_pos k2]
   clear k1 k2
   go_enter Tryz.func85, Tryz.ntmps85
   go_wp2
   go_ret
   exact ⟨rfl, HB.out⟩
  ·have b2 : (kind == 2) = false := by simpa using k2
   rw [if_neg k2]
   clear k1 k2
   go_enter Tryz.func85, Tryz.ntmps85
   go_wp2
   go_ret
   exact ⟨rfl, HB.out⟩
theorem sc_call (c : Cf) (hc : c.OK) (x : S52) (A : Option Addr) (m g : Nat) (w : World) (hg : w.heap[g]? = some (.cells #[.int .i64 c.n, .int .i64 c.pi, .int .i64 c.e, .int .i64 c.g, .int .i64 c.first, .slice A c.pairs.length m] 24 (0, 0))) :
  Calls Tryz.prog 60 #[.agg #[.int .i64 x.f0, .int .i64 x.f1, .int .i64 x.f2, .int .i64 x.f3], .pointer (some ⟨g, 0, none⟩)] w fun e w' => e = .returned (.bool (!callB c x)) ∧ Below w.heap.size w w' := by
 have K1 := fun W => sc_in x.f0 0 200 W
 have K2 := fun W => sc_in x.f1 0 (c.n - 1) W
 have K3 := fun W => sc_in x.f2 0 (c.pairs.length : Int) W
 have h6 := hc.n6
 have h12 := hc.n12
 unfold callB
 generalize inB x.f0 0 200 = b1 at *
 generalize inB x.f1 0 (c.n - 1) = b2 at *
 generalize inB x.f2 0 (c.pairs.length : Int) = b3 at *
 have HB := am (b_al w (.cells #[.int .i64 x.f0, .int .i64 x.f1, .int .i64 x.f2, .int .i64 x.f3] 52))
 have cc := cells6 (blk_alloc hg (.cells #[.int .i64 x.f0, .int .i64 x.f1, .int .i64 x.f2, .int .i64 x.f3] 52))
 clear hg hc
 cases b1 <;> cases b2
 all_goals
  go_enter Tryz.func60, Tryz.ntmps60
  go_wp2_with (first
   | (go_at_call 59; with_reducible refine (K1 _).mono ?_; rintro e W ⟨rfl, rfl⟩)
   | (go_at_call 59; with_reducible refine (K2 _).mono ?_; rintro e W ⟨rfl, rfl⟩)
   | (go_at_call 59; with_reducible refine (K3 _).mono ?_; rintro e W ⟨rfl, rfl⟩))
  go_ret
  exact ⟨by simp, HB.out⟩
theorem fault_Check (c : Cf) (hc : c.OK) (f : Ft) (hf : f.OK c) (A : Option Addr) (m : Nat) (AA : Option Addr) (ma : Nat) (AD : Option Addr) (md : Nat) (w : World) (hr : f.C w AA ma AD md) :
  Calls Tryz.prog 62 #[c.v A m, f.v AA ma AD md] w fun e w' => e = .returned (.int .i64 0) ∧ Below w.heap.size w w' := by
 have KPl := fun W => ft_places c (by have := hc.n6; have := hc.n12; omega) f.kind A m W
 have hpl := hf.a1
 have hpb : (if f.kind = 1 then c.n else if f.kind = 2 then 2 * c.n else 1) ≤ 1000 := by
  have := hc.n12
  repeat' split
  all_goals omega
 generalize (if f.kind = 1 then c.n else if f.kind = 2 then 2 * c.n else 1) = pl at *
 have HK := am (fun W (hb : Below w.heap.size w W) => has_act #[] (fun x => decide (1000 < (x.f2.size : Int))) AA ma f.acts (by have := hf.la; omega) W (Kd.C_below hr.1.1 hb) (fun x W _ => ft_text x W) rfl)
 have hany : (f.acts.any fun x => decide (1000 < (x.f2.size : Int))) = false := by
  rw [List.any_eq_false]
  intro x hx
  have := hf.tx x hx
  simp; omega
 rw [hany] at HK
 have d1 : decide (f.kind < 0) = false := decide_eq_false (by have := hf.k0; omega)
 have d2 : decide (2 < f.kind) = false := decide_eq_false (by have := hf.k1; omega)
 have d3 : decide (f.at_ < 0) = false := decide_eq_false (by have := hf.a0; omega)
 have d4 : decide (pl ≤ f.at_) = false := decide_eq_false (by omega)
 have d5 : decide (f.frm < 0) = false := decide_eq_false (by have := hf.f0; omega)
 have d6 : decide (1000 < f.to_) = false := decide_eq_false (by have := hf.t1; omega)
 have d7 : decide (f.to_ < f.frm) = false := decide_eq_false (by have := hf.ft; omega)
 have d8 : decide (40 < (f.acts.length : Int)) = false := decide_eq_false (by have := hf.la; omega)
 have d9 : decide (40 < (f.devs.length : Int)) = false := decide_eq_false (by have := hf.ld; omega)
 clear hany hf hc hpl hpb hr
 go_enter Tryz.func62, Tryz.ntmps62
 go_upto_region 1 with (fail)
 have HB := am (b_tr (b_al w (.cells #[.int .i64 c.n, .int .i64 c.pi, .int .i64 c.e, .int .i64 c.g, .int .i64 c.first, .slice A c.pairs.length m] 24)) (b_al _ (.cells #[.int .i64 f.kind, .int .i64 f.at_, .int .i64 f.frm, .int .i64 f.to_, .slice AA f.acts.length ma, .slice AD f.devs.length md] 27)))
 have HCB := am (blk_alloc (blk_new w (.cells #[.int .i64 c.n, .int .i64 c.pi, .int .i64 c.e, .int .i64 c.g, .int .i64 c.first, .slice A c.pairs.length m] 24)) (.cells #[.int .i64 f.kind, .int .i64 f.at_, .int .i64 f.frm, .int .i64 f.to_, .slice AA f.acts.length ma, .slice AD f.devs.length md] 27))
 have HFB := am (blk_new (w.alloc (.cells #[.int .i64 c.n, .int .i64 c.pi, .int .i64 c.e, .int .i64 c.g, .int .i64 c.first, .slice A c.pairs.length m] 24)) (.cells #[.int .i64 f.kind, .int .i64 f.at_, .int .i64 f.frm, .int .i64 f.to_, .slice AA f.acts.length ma, .slice AD f.devs.length md] 27))
 rw [← size_al_] at HFB
 generalize (w.alloc (.cells #[.int .i64 c.n, .int .i64 c.pi, .int .i64 c.e, .int .i64 c.g, .int .i64 c.first, .slice A c.pairs.length m] 24)).alloc (.cells #[.int .i64 f.kind, .int .i64 f.at_, .int .i64 f.frm, .int .i64 f.to_, .slice AA f.acts.length ma, .slice AD f.devs.length md] 27) = W0 at *
 have cc := cells6 HCB.out
 have ff := cells6 HFB.out
 go_wp2
 have HN := am (below_drew (Below.refl W0.heap.size W0))
 refine startB (n := 13) (F := fun _ => False) (ds := []) (by kernel_rfl) rfl (fun hHeld => ?_)
 refine plan_ [.p 0 15, .t 1 16, .p 2 17, .p 3 18, .p 4 19, .t 5 20, .t 6 21, .p 7 22, .t 8 23] ?_
 repeat (first | refine jP ?_ | refine jW hHeld ?_ | refine jG ?_)
 refine planE ?_
 refine jO 9 (some 24) (fun K hK => ?_)
 refine kC Tryz.func85 #[c.v A m, .int .i64 f.kind] ?_
 refine (KPl _).mono ?_
 rintro e W3 ⟨rfl, hb⟩
 replace HN := am (b_tr HN.out hb)
 clear hb
 refine ⟨_, rfl, ?_⟩
 refine hK.out _ _ (Kp.of HN.out) (fun hHeld => ?_)
 clear hK K
 refine jM 24 ?_
 refine plan_ [.p 10 25, .p 11 26, .p 12 14] ?_
 repeat (first | refine jP ?_ | refine jW hHeld ?_ | refine jG ?_)
 refine planE ?_
 refine done_ (by kernel_rfl) ?_
 have n1 := am (blk_below HFB.out HN.out)
 have n2 := am (b_tr HB.out HN.out)
 clear cc ff HFB HCB HN HB
 have ff := cells6 n1.out
 have HBX := n2
 go_wp2_with (go_at_call 86; refine (HK.out _ n2.out).mono ?_; rintro e W4 ⟨rfl, hb⟩; have n3 := am (b_tr n2.out hb); clear hb HBX; have HBX := n3; clear n3)
 go_ret
 exact ⟨rfl, HBX.out⟩
theorem script_Check (c : Cf) (hc : c.OK) (s : Sc) (hs : s.OK c) (A : Option Addr) (m : Nat) (a : ScA) (w : World) (hr : s.C w a) :
  Calls Tryz.prog 37 #[c.v A m, s.v a] w fun e w' => e = .returned (.int .i64 0) ∧ Below w.heap.size w w' := by
 have K1 := am (fun W => sc_in s.rounds 0 200 W)
 have e1 : inB s.rounds 0 200 = true := by unfold inB; have := hs.r0; have := hs.r1; simp; omega
 rw [e1] at K1
 have KO := am (fun W (hb : Below w.heap.size w W) => has_on #[] (fun x => !inB x (-1) 200) a.Ao a.mo s.on (by have := hs.on; have := hc.n12; omega) W (Kd.C_below hr.on.1 hb) (fun x W _ => sc_on x W) rfl)
 have e2 : (s.on.any fun x => !inB x (-1) 200) = false := by
  rw [List.any_eq_false]
  intro x hx
  have := hs.ov x hx
  simp [inB]; omega
 rw [e2] at KO
 have KC := am (fun W (hb : Below w.heap.size w W) (g : Nat) (hg : W.heap[g]? = some (.cells #[.int .i64 c.n, .int .i64 c.pi, .int .i64 c.e, .int .i64 c.g, .int .i64 c.first, .slice A c.pairs.length m] 24 (0, 0))) => has_call #[.pointer (some ⟨g, 0, none⟩)] (fun x => !callB c x) a.Ac a.mc s.calls (by have := hs.ca; omega) W (Kd.C_below hr.ca.1 hb) (fun x W2 hb2 => sc_call c hc x A m g W2 (blk_below hg hb2)) g rfl)
 have e3 : (s.calls.any fun x => !callB c x) = false := by
  rw [List.any_eq_false]
  intro x hx
  simp [hs.cv x hx]
 rw [e3] at KC
 have KF := am (fun W (hb : Below w.heap.size w W) => fault_Check c hc s.f hs.f A m a.AA a.ma a.AD a.mD W (hr.below hb).f)
 have d1 : ((s.on.length : Int) != c.n) = false := by simp [hs.on]
 have d2 : decide (60 < (s.drifts.length : Int)) = false := decide_eq_false (by have := hs.dr; omega)
 have d3 : decide (60 < (s.errs.length : Int)) = false := decide_eq_false (by have := hs.er; omega)
 have d4 : decide (100 < (s.calls.length : Int)) = false := decide_eq_false (by have := hs.ca; omega)
 clear e1 e2 e3 hs hc hr
 go_enter Tryz.func37, Tryz.ntmps37
 go_upto_region 1 with (fail)
 have HB := am (b_tr (b_al w (.cells #[.int .i64 c.n, .int .i64 c.pi, .int .i64 c.e, .int .i64 c.g, .int .i64 c.first, .slice A c.pairs.length m] 24)) (b_al _ (.cells #[.slice a.Ao s.on.length a.mo, .slice a.Ad s.drifts.length a.md, .slice a.Ae s.errs.length a.me, .slice a.Ac s.calls.length a.mc, .int .i64 s.f.kind, .int .i64 s.f.at_, .int .i64 s.f.frm, .int .i64 s.f.to_, .slice a.AA s.f.acts.length a.ma, .slice a.AD s.f.devs.length a.mD, .int .i64 s.rounds] 36)))
 have HCB := am (blk_alloc (blk_new w (.cells #[.int .i64 c.n, .int .i64 c.pi, .int .i64 c.e, .int .i64 c.g, .int .i64 c.first, .slice A c.pairs.length m] 24)) (.cells #[.slice a.Ao s.on.length a.mo, .slice a.Ad s.drifts.length a.md, .slice a.Ae s.errs.length a.me, .slice a.Ac s.calls.length a.mc, .int .i64 s.f.kind, .int .i64 s.f.at_, .int .i64 s.f.frm, .int .i64 s.f.to_, .slice a.AA s.f.acts.length a.ma, .slice a.AD s.f.devs.length a.mD, .int .i64 s.rounds] 36))
 have HFB := am (blk_new (w.alloc (.cells #[.int .i64 c.n, .int .i64 c.pi, .int .i64 c.e, .int .i64 c.g, .int .i64 c.first, .slice A c.pairs.length m] 24)) (.cells #[.slice a.Ao s.on.length a.mo, .slice a.Ad s.drifts.length a.md, .slice a.Ae s.errs.length a.me, .slice a.Ac s.calls.length a.mc, .int .i64 s.f.kind, .int .i64 s.f.at_, .int .i64 s.f.frm, .int .i64 s.f.to_, .slice a.AA s.f.acts.length a.ma, .slice a.AD s.f.devs.length a.mD, .int .i64 s.rounds] 36))
 rw [← size_al_] at HFB
 generalize (w.alloc (.cells #[.int .i64 c.n, .int .i64 c.pi, .int .i64 c.e, .int .i64 c.g, .int .i64 c.first, .slice A c.pairs.length m] 24)).alloc (.cells #[.slice a.Ao s.on.length a.mo, .slice a.Ad s.drifts.length a.md, .slice a.Ae s.errs.length a.me, .slice a.Ac s.calls.length a.mc, .int .i64 s.f.kind, .int .i64 s.f.at_, .int .i64 s.f.frm, .int .i64 s.f.to_, .slice a.AA s.f.acts.length a.ma, .slice a.AD s.f.devs.length a.mD, .int .i64 s.rounds] 36) = W0 at *
 have cc := cells6 HCB.out
 have ff := cells11 HFB.out
 go_wp2_with (first
  | (go_at_call 59; with_reducible refine (K1.out _).mono ?_; rintro e W ⟨rfl, rfl⟩)
  | (go_at_call 56; refine (KO.out _ HB.out).mono ?_; rintro e W2 ⟨rfl, hb⟩; have q0_ := am (b_tr HB.out hb); have q1_ := am (blk_below HCB.out hb); have q2_ := am (blk_below HFB.out hb); clear HB HCB HFB hb; have HB := q0_; have HCB := q1_; have HFB := q2_; clear q0_ q1_ q2_; clear cc ff; have cc := cells6 HCB.out; have ff := cells11 HFB.out)
  | (go_at_call 61; refine (KC.out _ HB.out _ HCB.out).mono ?_; rintro e W3 ⟨rfl, hb⟩; have q0_ := am (b_tr HB.out hb); have q1_ := am (blk_below HCB.out hb); have q2_ := am (blk_below HFB.out hb); clear HB HCB HFB hb; have HB := q0_; have HCB := q1_; have HFB := q2_; clear q0_ q1_ q2_; clear cc ff; have cc := cells6 HCB.out; have ff := cells11 HFB.out)
  | (go_at_call 62; refine (KF.out _ HB.out).mono ?_; rintro e W4 ⟨rfl, hb⟩; have q0_ := am (b_tr HB.out hb); have q1_ := am (blk_below HCB.out hb); have q2_ := am (blk_below HFB.out hb); clear HB HCB HFB hb; have HB := q0_; have HCB := q1_; have HFB := q2_; clear q0_ q1_ q2_; clear cc ff))
 go_ret
 exact ⟨rfl, HB.out⟩
end Go.Proofs.YtgcgglmmfgmaoaaGreat.PK
end
