/- For all rows of bytes and every text whose reading, with the package's listed variables, is of bulk at most 1048576: the law of quoted words returns true. -/
import Derived.Test.YtoamchhmehpgoaaGreatDoorCards
import Derived.Test.YtoamchhmehpgoaaGreatDoorTie
import Derived.Test.YtoamchhmehpgoaaGreatDoorShQuote
import Derived.Test.YtoamchhmehpgoaaGreatDoorBulk
import Derived.Test.YtoamchhmehpgoaaGreatDoorLaid
import Derived.Test.YtoamchhmehpgoaaGreatDoorPSJx12
import Derived.Deep.Matrix
import Derived.WalkKit
import Derived.ProofKit
import Derived.OpenShut
import Derived.ShutString
import Derived.ChangeOld
import Derived.Below
import Derived.Deep.DeepHandedRow
import Derived.Lib.LaidTab
namespace Go.Proofs.YtoamchhmehpgoaaGreatDoor.PSJ
open Go Go.RowKit Go.Proofs.YtoamchhmehpgoaaGreatDoorW.PrintWords Go.Proofs.YtoamchhmehpgoaaGreatDoorW.PrintLast Go.Proofs.YtoamchhmehpgoaaGreatDoorW.PrintMore
attribute [local go_sem] max2_int min2_int max_two min_two max_three min_three max_four min_four
set_option linter.unusedVariables false
set_option linter.unusedSimpArgs false
namespace RowQuotes
open Go.ChangeShapes Go.WideShapes Go.ChangeAt Go.RowKit
open Go.ChangeMaps (open_string shut_string)
theorem own : ownKnob Tryz.prog.godebug = none := by kernel_rfl
theorem laidOut : laidOutB Tryz.prog = true := by kernel_rfl
def IsRow (k : IntKind) (w : World) (a : Option Addr) (len cap : Nat) (zs : List Int) : Prop :=
  (a = none ∧ len = 0 ∧ cap = 0 ∧ zs = []) ∨
  ∃ x, a = some x ∧ len ≤ cap ∧ cap ≤ maxLen ∧ zs.length = cap ∧ (∀ i, i < zs.length → w.cell? (x.add i) = some (.int k (zs.getD i 0))) ∧ ∀ n ∈ zs, (Lit.int k n).wf = true
theorem wf8 {l : List Int} (h : ∀ x ∈ l, (Lit.int .u8 x).wf = true) : By l := by
  intro x hx
  have := h x hx
  simp [Lit.wf] at this
  have h0 : IntKind.u8.min = 0 := rfl
  have h1 : IntKind.u8.max = 255 := rfl
  omega
set_option maxRecDepth 100000 in
theorem contract (H : Type) (enc : TypeId × Value → H) (W : World) (base : Nat) (args : Array Value) (ds gs : List (DataW H)) (before : List MemPlace)
    (hval0 : ∀ (j : Nat) t v, Tryz.f4.params[j]? = some t → args[j]? = some v → Value.okWide Tryz.prog W .any base t v)
    (hW : DataW.Whole enc Tryz.prog Tryz.f4.params.toList Rows.shellQuotesSpec.vars false W args.toList ds gs before) (hk : Rows.uptoSmall H (ds ++ gs) = true) (hS : W.ShapedOpen Tryz.prog) :
    Calls Tryz.prog 4 args W fun e W' => ∃ v, e = .returned v ∧ Rows.shellQuotesSpec.post enc Tryz.prog Tryz.f4 false true false false W args v W' := by
  have hval : ∀ (j : Nat) t v, Tryz.f4.params[j]? = some t → args[j]? = some v → Value.okWide Tryz.prog W .any base t v := hval0
  have hW' := hW
  obtain ⟨p, q, hA0, hV, rfl, hfz, hnd⟩ := hW
  have hA : DataW.TrodAll enc Tryz.prog W 0 (fun _ => true) true Tryz.f4.params.toList args.toList ds p := hA0
  rw [Tryz.params4] at hA hval
  obtain ⟨v0, vs0, d0, ds0, p0, q0, hargs, rfl, rfl, h0, r0⟩ := trodAll_cons hA
  obtain ⟨v1, vs1, d1, ds1, p1, q1, rfl, rfl, rfl, h1, r1⟩ := trodAll_cons r0
  obtain ⟨rfl, rfl, rfl⟩ := trodAll_nil r1
  obtain rfl : args = #[v0, v1] := by cases args; simp_all
  obtain ⟨rfl, rfl⟩ := trodVars_none hV
  obtain ⟨a1, rfl, rfl, rfl, y1⟩ := open_string Tryz.underlying9 (hval 1 9 v1 rfl rfl) h1
  have hML : maxLen ≤ 9223372036854775807 := by decide +kernel
  have hb := bulks.bound hk
  have b1 : a1.size ≤ 1048576 := by
    have h := bulks.part_le (d := DataW.lit (H := H) (.string a1.data.toList)) (l := [d0, DataW.lit (.string a1.data.toList)] ++ []) (by simp)
    rw [bulks.string_eq, Array.length_toList] at h
    exact Nat.le_trans (Nat.le_succ _) (Nat.le_trans h hb)
  have b0 : Rows.uptoBulk d0 ≤ 1048576 := Nat.le_trans (bulks.part_le (l := [d0, DataW.lit (.string a1.data.toList)] ++ []) (by simp)) hb
  obtain ⟨a0, len0, cap0, rfl⟩ := okWide_slice Tryz.underlying32 (hval 0 32 v0 rfl rfl)
  have k0 := h0
  have lt0 : ∀ x ∈ p0, x.block < W.heap.size := by obtain ⟨m, hm⟩ := k0; exact DataW.trod_lt m _ _ _ hm
  obtain ⟨l0, rfl, hr0, hc0, hby, hln⟩ : ∃ l0 : List (List Int), l0.length = len0 ∧ Kd.C (Kd.slice 5 (Kd.int .u8)) W a0 len0 l0 ∧ len0 ≤ cap0 ∧ (∀ l ∈ l0, By l) ∧ ∀ l ∈ l0, l.length ≤ 1048576 := by
    obtain ⟨fuel, hf⟩ := h0
    rcases Go.Deep.open_int_rows Tryz.underlying32 Tryz.underlying22 Tryz.underlying5 (by kernel_rfl) (by kernel_rfl) hf with ⟨hcs, _⟩ | ⟨x, l, c, Ar, Lr, Cr, Zr, hcs, _, hl, hm, hd, hall⟩
    · simp [Value.cells] at hcs
      obtain ⟨rfl, rfl, rfl⟩ := hcs
      exact ⟨[], rfl, ⟨rfl, Nat.zero_le _, fun h => absurd h (by omega)⟩, Nat.le_refl _, by simp, by simp⟩
    · simp [Value.cells] at hcs
      obtain ⟨rfl, rfl, rfl⟩ := hcs
      have hd1 := congrArg Prod.fst hd
      simp only at hd1
      subst hd1
      refine ⟨(List.range len0).map fun r => (Zr r).take (Lr r), by simp, ⟨by simp, by omega, fun _ => ⟨x, rfl, fun j p hj => ?_⟩⟩, hl, ?_, ?_⟩
      · obtain ⟨hj', hp⟩ := List.getElem?_eq_some_iff.1 hj
        simp only [List.length_map, List.length_range] at hj'
        simp only [List.getElem_map, List.getElem_range] at hp
        subst hp
        obtain ⟨e1, r1, r2, r3, r4, r5, r6⟩ := hall j (by omega)
        have hlen : ((Zr j).take (Lr j)).length = Lr j := by rw [List.length_take]; omega
        refine ⟨[.slice (Ar j) (Lr j) (Cr j)], rfl, ⟨Ar j, Cr j, by rw [hlen], by omega, ?_⟩, ?_⟩
        · rw [hlen]
          refine Kd.C_of_reads (d := (0 : Int)) (h1 := fun _ => rfl) ⟨hlen, by omega, fun hpos => ?_⟩
          cases hA : Ar j with
          | none => have := r5 hA; omega
          | some a' =>
            refine ⟨a', rfl, fun i hi => ?_⟩
            rw [(r6 a' hA).2 i (by omega)]
            congr 2
            rw [List.getD_eq_getElem?_getD, List.getD_eq_getElem?_getD, List.getElem?_take_of_lt hi]
        · intro i u hu
          match i, hu with
          | 0, hu =>
            cases hu
            rw [show j * (Kd.slice 5 (Kd.int .u8)).sz + 0 = j from by show j * 1 + 0 = j; omega]
            exact e1
          | i + 1, hu => cases hu
      · intro l hl'
        obtain ⟨r, hr, rfl⟩ := List.mem_map.1 hl'
        have hr := List.mem_range.1 hr
        obtain ⟨_, _, _, _, r4, _, _⟩ := hall r (by omega)
        exact wf8 fun y hy => r4 y (List.mem_of_mem_take hy)
      · intro l hl'
        obtain ⟨r, hr, rfl⟩ := List.mem_map.1 hl'
        have hr := List.mem_range.1 hr
        obtain ⟨_, r1, _, r3, _, r5, _⟩ := hall r (by omega)
        have h1 := Nat.le_trans (Nat.le_trans (Nat.le_add_right _ _) (bulks.slice_elems _ _)) b0
        have h2 := bulks.part_le (H := H) (d := Go.Deep.intRow .u8 (Ar r) (Lr r) (Zr r)) (l := (List.range len0).map fun r => Go.Deep.intRow .u8 (Ar r) (Lr r) (Zr r)) (List.mem_map.2 ⟨r, List.mem_range.2 hr, rfl⟩)
        cases hA : Ar r with
        | none => have := r5 hA; rw [List.length_take]; omega
        | some a' =>
          rw [hA] at h2
          have h3 := bulks.slice_le (H := H) (lits .u8 ((Zr r).take (Lr r))) (lits .u8 ((Zr r).drop (Lr r)))
          have h4 : (lits (H := H) .u8 ((Zr r).take (Lr r))).length = ((Zr r).take (Lr r)).length := by simp [lits]
          have h5 : Rows.uptoBulk (Go.Deep.intRow (H := H) .u8 (some a') (Lr r) (Zr r)) = Rows.uptoBulk (.slice (lits (H := H) .u8 ((Zr r).take (Lr r))) (lits .u8 ((Zr r).drop (Lr r)))) := rfl
          rw [h5] at h2
          have h6 := Nat.le_trans h3 (Nat.le_trans h2 (Nat.le_trans (Nat.le_succ _) (Nat.le_trans (bulks.slice_elems _ _) b0)))
          omega
  have hx : numAt W := Tryz.laysM143.s1_3 W hS
  obtain ⟨k, h⟩ := quotes_law l0 a1 (by omega) hby hln
  refine (plaitinglaw18_ShellQuotes.calls k _ _ l0 a1 true W hx hr0 hc0 h).mono fun e W' ⟨he, bel⟩ => ?_
  subst he
  exact ⟨_, rfl, _, _, _, [], _, [], hW', trodAll_mk1 (shut_bool Tryz.underlying4 _), (trodAll_cons_mk (Below.trod laidOut (by kernel_rfl) (of_decide_eq_true (by kernel_rfl)) k0 bel lt0) (trodAll_cons_mk (shut_string Tryz.underlying9 y1) trodAll_mk0)), rfl, bel.frame _, fun h => by cases h⟩
theorem reads (os : Os) {H : Type} (enc : TypeId × Value → H) : ∃ places, DataW.whole enc Tryz.prog ((Laid.laidWorld os).forCall (fun _ _ => 0) ⟨#[], #[.slice none 0 0, .string ByteArray.empty], []⟩).memory Tryz.f4.params.toList Rows.shellQuotesSpec.vars false #[Value.slice none 0 0, .string ByteArray.empty].toList 8 = some ([.nil, .lit (.string [])], [], places) :=
  ⟨[], by kernel_rfl⟩
set_option maxRecDepth 100000 in
theorem lifted (os : Os) (started : os.Started) (H : Type) (enc : TypeId × Value → H) (F : Stop.Interp) :
    ReturnsInHanded {} Tryz.checked os 4 .any ((Rows.OpenSpec.upto Rows.shellQuotesSpec).preRow enc Tryz.prog Tryz.f4 Rows.shellQuotesUptoRow.domain false Rows.shellQuotesUptoRow.laid) (((Rows.OpenSpec.upto Rows.shellQuotesSpec).at F).post enc Tryz.prog Tryz.f4 false true false false) := by
  obtain ⟨places, hx⟩ := reads os enc
  refine returnsInHanded_of_row (C := Tryz.checked) (s := Rows.OpenSpec.upto Rows.shellQuotesSpec) own started (by kernel_rfl) Tryz.func4
    (witness_row_atRef (enc := enc) (C := Tryz.checked) false (Laid.laidWorld os) #[.slice none 0 0, .string ByteArray.empty] rfl (by kernel_rfl) (by kernel_rfl) (by kernel_rfl)
      (OpenSpec.preRow_of_cond 8 hx (by kernel_rfl) (fun k hk => by cases hk; kernel_rfl) (by kernel_rfl) (Laid.laid_met os _))) ?_
  intro W base args ds gs before hval hW _ hcond _ hL hS _
  exact contract H enc W base args ds gs before hval hW (hcond _ rfl) hS
theorem said : Rows.ShellQuotesUptoSaid :=
  OpenClaim.holds_of_cond 4 Tryz.f4 rfl rfl rfl rfl rfl rfl rfl ⟨rfl, rfl, rfl, rfl, rfl⟩ rfl rfl rfl rfl rfl (by kernel_rfl) Tryz.func4 (by kernel_rfl)
    (of_decide_eq_true (by kernel_rfl)) (by unfold Func.isWrapper; first | (rw [if_pos (by decide +kernel)]; kernel_rfl) | (rw [if_neg (by decide +kernel)]; exact ⟨rfl, rfl⟩))
    (fun os started H enc _ F => by rw [OpenClaim.pre_eq_preRow]; exact lifted os started H enc F)
theorem plain (f : FuncId) (fn : Func) (hf : Tryz.pinned.checked.prog.funcNamed "plaiting/plaitinglaw18.ShellQuotes" = some f) (hfn : Tryz.pinned.checked.prog.funcs[f]? = some fn) :
    true = Tryz.pinned.checked.prog.looks [] ∧ ∀ (j : Nat) t, fn.params[j]? = some t → Tryz.pinned.checked.prog.wantsStandIn t = false := by
  obtain rfl : f = 4 := Option.some.inj ((show Tryz.prog.funcNamed "plaiting/plaitinglaw18.ShellQuotes" = some 4 by kernel_rfl).symm.trans hf) |>.symm
  obtain rfl : fn = Tryz.f4 := (Option.some.inj (Tryz.func4.symm.trans hfn)).symm
  refine ⟨by kernel_rfl, fun j t ht => ?_⟩
  rw [Tryz.params4] at ht
  have hm := Array.mem_of_getElem? ht
  simp only [List.mem_toArray, List.mem_cons, List.mem_nil_iff, or_false] at hm
  rcases hm with rfl | rfl
  · exact (show Tryz.prog.wantsStandIn 32 = false by kernel_rfl)
  · exact (show Tryz.prog.wantsStandIn 9 = false by kernel_rfl)
theorem card : Rows.ShellQuotesUptoCardSaid :=
  Claim7.holds_tied_plain_at .later [] _ _ _ _ said (fun _ h => by cases h) (by kernel_rfl) (fun _ h => by cases h) shellQuotesUpto_row_tie rfl ⟨rfl, rfl⟩ (by kernel_rfl) rfl plain (by kernel_rfl)
end RowQuotes
/-- The card, under a short name, for the claim. -/
theorem shellQuotes_card : Rows.ShellQuotesUptoCardSaid := RowQuotes.card
end Go.Proofs.YtoamchhmehpgoaaGreatDoor.PSJ
