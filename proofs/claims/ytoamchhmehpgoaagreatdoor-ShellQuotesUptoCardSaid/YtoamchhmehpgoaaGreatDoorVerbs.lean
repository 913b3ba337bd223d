/- The shell's verbs, laid into a map; a script at its beginning. -/
import Derived.Test.YtoamchhmehpgoaaGreatDoorCmds
namespace Go.Proofs.YtoamchhmehpgoaaGreatDoor.PSJ
open Go Go.RowKit Go.Proofs.YtoamchhmehpgoaaGreatDoorW.PrintWords Go.Proofs.YtoamchhmehpgoaaGreatDoorW.PrintLast Go.Proofs.YtoamchhmehpgoaaGreatDoorW.PrintMore
attribute [local go_sem] max2_int min2_int max_two min_two max_three min_three max_four min_four
set_option linter.unusedVariables false
set_option linter.unusedSimpArgs false
/-- A key that is not there yet is put. -/
theorem put_run {P : Program} {w : World} (mty kt et : TypeId) (r clock : Nat) (es : Array MapEntry) (s : ByteArray) (val : Value) (hm : P.underlying mty = some (.map kt et)) (hk : P.underlying kt = some .string) (hb : w.heap[r]? = some (.map es clock))
    (hf : Instr.findNow .string (.string s) es.toList 0 = some none) :
    (Instr.mapUpdate mty (.map (some r)) (.string s) val).run P w = .ok () (putO w r (.map (es.push { key := .string s, val := val, born := clock }) (clock + 1))) := by
  have hc : (Instr.checkKey false 10000 kt (.string s)).run P w = .ok () w := MapKept.run_checkKey (k := .string s) hk (by simp [MapKept.IsKey]) false 9999
  simp [Instr.mapUpdate, run_underlying hm, MapKept.run_getObj_map hb, hc, MapKept.run_findKey hk hf, MapKept.run_setObj_map _ hb, Result.andThen, putO]
/-- A key that is there. -/
theorem look_run {P : Program} {w : World} (mty kt et : TypeId) (r clock : Nat) (es : Array MapEntry) (s : ByteArray) (i : Nat) (val : Value) (hm : P.underlying mty = some (.map kt et)) (hk : P.underlying kt = some .string) (hb : w.heap[r]? = some (.map es clock))
    (hf : Instr.findNow .string (.string s) es.toList 0 = some (some (i, val))) :
    (Instr.lookup mty (.map (some r)) (.string s) true).run P w = .ok (.tuple #[val, .bool true]) w := by
  have hc : ∀ b, (Instr.checkKey b 10000 kt (.string s)).run P w = .ok () w := fun b => MapKept.run_checkKey (k := .string s) hk (by simp [MapKept.IsKey]) b 9999
  simp [Instr.lookup, run_underlying hm, MapKept.run_getObj_map hb, hc, MapKept.run_findKey hk hf, Result.andThen]
section
variable {P : Program} {ops : Array Oper} {rest : List Oper} {o : Oper} {a : Act} {Q : Exit → Act → World → Prop} {W : World}
theorem wpList_put (hgd : o.guard = none) (m x v : Operand) (t k e : TypeId) (hop : o.op = .insert t m x v) (ht : P.underlying t = some (.map k e)) (hk : P.underlying k = some .string) (r clock : Nat) (es : Array MapEntry) (s : ByteArray) (val : Value)
    (hm : a.eval m = .map (some r)) (hx : a.eval x = .string s) (hv : a.eval v = val) (hb : W.heap[r]? = some (.map es clock)) (hf : Instr.findNow .string (.string s) es.toList 0 = some none)
    (h : ∀ W', W'.heap[r]? = some (.map (es.push { key := .string s, val := val, born := clock }) (clock + 1)) → Kp (fun q => q = r) W W' → wpList P ops Q rest (a.put o.dst undef) W') : wpList P ops Q (o :: rest) a W := by
  refine wpList_plain hgd fun K' hK' => ?_
  unfold Oper.wp
  simp [execOp, hop, hm, hx, hv, put_run t k e r clock es s val ht hk hb hf, Result.andThen]
  exact hK' _ _ (h _ (putO_at W r _ _ hb) (putO_kp W r _))
end
set_option maxRecDepth 100000 in
theorem of_gives (g : Nat) (fn : Fn) (rs cs : Array Value) (w : World) : Calls Tryz.prog 36 #[.pointer (some ⟨g, 0, none⟩), .func fn rs cs] w fun e w' => ∃ b0 b1, e = .returned (.func (.func 58) #[] #[.pointer (some ⟨b0, 0, none⟩), .pointer (some ⟨b1, 0, none⟩)]) ∧ w.heap.size ≤ b0 ∧ (∃ T, w'.heap[b0]? = some (.cells #[.pointer (some ⟨g, 0, none⟩)] T (0, 0))) ∧ Below w.heap.size w w' := by
  go_enter Tryz.func36, Tryz.ntmps36
  go_wp2
  go_ret
  exact ⟨w.heap.size, w.heap.size + 1, rfl, Nat.le_refl _, ⟨_, blk_alloc (blk_new w _) _⟩, b_tr (b_al w _) (b_al _ _)⟩
/-- The verbs, as they lie in memory. -/
def verbs (g p0 p1 q0 q1 : Nat) : Array MapEntry := (#[⟨.string ⟨#[99, 111, 110, 102]⟩, .agg #[.string ⟨#[110, 110, 110, 110, 110]⟩, .func (.func 33) #[.pointer (some ⟨g, 0, none⟩)] #[]], 0⟩, ⟨.string ⟨#[112, 97, 105, 114]⟩, .agg #[.string ⟨#[110]⟩, .func (.func 34) #[.pointer (some ⟨g, 0, none⟩)] #[]], 1⟩, ⟨.string ⟨#[114, 117, 110]⟩, .agg #[.string ⟨#[84]⟩, .func (.func 35) #[.pointer (some ⟨g, 0, none⟩)] #[]], 2⟩, ⟨.string ⟨#[115, 116, 97, 116, 101]⟩, .agg #[.string ⟨#[110]⟩, .func (.func 58) #[] #[.pointer (some ⟨p0, 0, none⟩), .pointer (some ⟨p1, 0, none⟩)]], 3⟩, ⟨.string ⟨#[108, 111, 103]⟩, .agg #[.string ⟨#[110]⟩, .func (.func 58) #[] #[.pointer (some ⟨q0, 0, none⟩), .pointer (some ⟨q1, 0, none⟩)]], 4⟩, ⟨.string ⟨#[117, 112]⟩, .agg #[.string ⟨#[]⟩, .func (.func 39) #[.pointer (some ⟨g, 0, none⟩)] #[]], 5⟩] : Array MapEntry)
set_option maxHeartbeats 2000000 in
set_option maxRecDepth 100000 in
theorem commands_give (g : Nat) (w : World) : Calls Tryz.prog 20 #[.pointer (some ⟨g, 0, none⟩)] w fun e w' => ∃ r p0 p1 q0 q1, e = .returned (.map (some r)) ∧ w.heap.size ≤ r ∧ w'.heap[r]? = some (.map (verbs g p0 p1 q0 q1) 6) ∧ (∃ T, w'.heap[p0]? = some (.cells #[.pointer (some ⟨g, 0, none⟩)] T (0, 0))) ∧ w.heap.size ≤ p0 ∧ Below w.heap.size w w' := by
  have hmk : ∀ W, (Instr.makeMap 52 none).run Tryz.prog W = .ok (.map (some W.heap.size)) (W.alloc (.map #[] 0)) := fun W => run_makeMap _ W
  have M0 := Aside0.mk (blk_new w (.map #[] 0))
  have B0 := Aside0.mk (b_al w (.map #[] 0))
  have HR := Aside0.mk (show w.heap.size ≤ w.heap.size from Nat.le_refl _)
  go_enter Tryz.func20, Tryz.ntmps20
  go_wp2_with (first
    | ((with_reducible refine gate_ (.insert 52 (.tmp 3) (.const (.string ⟨#[99, 111, 110, 102]⟩)) (.tmp 6)) rfl ?_); refine wpList_put rfl (.tmp 3) (.const (.string ⟨#[99, 111, 110, 102]⟩)) (.tmp 6) 52 9 59 rfl Tryz.underlying52 Tryz.underlying9 w.heap.size 0 (#[] : Array MapEntry) ⟨#[99, 111, 110, 102]⟩ (.agg #[.string ⟨#[110, 110, 110, 110, 110]⟩, .func (.func 33) #[.pointer (some ⟨g, 0, none⟩)] #[]]) rfl rfl rfl M0.out (by rfl) ?_; intro W1 m_ k_; have M1 := Aside0.mk m_; have B1 := Aside0.mk (B0.out.trans (k_.below (Nat.le_trans (by simp) B0.out.size) (fun i hi e => by omega))); clear m_ k_)
    | ((with_reducible refine gate_ (.insert 52 (.tmp 3) (.const (.string ⟨#[112, 97, 105, 114]⟩)) (.tmp 9)) rfl ?_); refine wpList_put rfl (.tmp 3) (.const (.string ⟨#[112, 97, 105, 114]⟩)) (.tmp 9) 52 9 59 rfl Tryz.underlying52 Tryz.underlying9 w.heap.size 1 (#[⟨.string ⟨#[99, 111, 110, 102]⟩, .agg #[.string ⟨#[110, 110, 110, 110, 110]⟩, .func (.func 33) #[.pointer (some ⟨g, 0, none⟩)] #[]], 0⟩] : Array MapEntry) ⟨#[112, 97, 105, 114]⟩ (.agg #[.string ⟨#[110]⟩, .func (.func 34) #[.pointer (some ⟨g, 0, none⟩)] #[]]) rfl rfl rfl M1.out (by rfl) ?_; intro W2 m_ k_; have M2 := Aside0.mk m_; have B2 := Aside0.mk (B1.out.trans (k_.below (Nat.le_trans (by simp) B1.out.size) (fun i hi e => by omega))); clear m_ k_)
    | ((with_reducible refine gate_ (.insert 52 (.tmp 3) (.const (.string ⟨#[114, 117, 110]⟩)) (.tmp 12)) rfl ?_); refine wpList_put rfl (.tmp 3) (.const (.string ⟨#[114, 117, 110]⟩)) (.tmp 12) 52 9 59 rfl Tryz.underlying52 Tryz.underlying9 w.heap.size 2 (#[⟨.string ⟨#[99, 111, 110, 102]⟩, .agg #[.string ⟨#[110, 110, 110, 110, 110]⟩, .func (.func 33) #[.pointer (some ⟨g, 0, none⟩)] #[]], 0⟩, ⟨.string ⟨#[112, 97, 105, 114]⟩, .agg #[.string ⟨#[110]⟩, .func (.func 34) #[.pointer (some ⟨g, 0, none⟩)] #[]], 1⟩] : Array MapEntry) ⟨#[114, 117, 110]⟩ (.agg #[.string ⟨#[84]⟩, .func (.func 35) #[.pointer (some ⟨g, 0, none⟩)] #[]]) rfl rfl rfl M2.out (by rfl) ?_; intro W3 m_ k_; have M3 := Aside0.mk m_; have B3 := Aside0.mk (B2.out.trans (k_.below (Nat.le_trans (by simp) B2.out.size) (fun i hi e => by omega))); clear m_ k_)
    | (go_at_call 36; ((with_reducible refine (of_gives g _ _ _ _).mono ?_); rintro e W4 ⟨p0, p1, rfl, l_, ⟨Tp, c_⟩, b_⟩; have M4 := Aside0.mk (blk_below M3.out b_); have B4 := Aside0.mk (b_tr B3.out b_); have Cp4 := Aside0.mk c_; have Lp := Aside0.mk (Nat.lt_of_lt_of_le (blk_lt M3.out) l_); clear l_ c_ b_))
    | ((with_reducible refine gate_ (.insert 52 (.tmp 3) (.const (.string ⟨#[115, 116, 97, 116, 101]⟩)) (.tmp 17)) rfl ?_); refine wpList_put rfl (.tmp 3) (.const (.string ⟨#[115, 116, 97, 116, 101]⟩)) (.tmp 17) 52 9 59 rfl Tryz.underlying52 Tryz.underlying9 w.heap.size 3 (#[⟨.string ⟨#[99, 111, 110, 102]⟩, .agg #[.string ⟨#[110, 110, 110, 110, 110]⟩, .func (.func 33) #[.pointer (some ⟨g, 0, none⟩)] #[]], 0⟩, ⟨.string ⟨#[112, 97, 105, 114]⟩, .agg #[.string ⟨#[110]⟩, .func (.func 34) #[.pointer (some ⟨g, 0, none⟩)] #[]], 1⟩, ⟨.string ⟨#[114, 117, 110]⟩, .agg #[.string ⟨#[84]⟩, .func (.func 35) #[.pointer (some ⟨g, 0, none⟩)] #[]], 2⟩] : Array MapEntry) ⟨#[115, 116, 97, 116, 101]⟩ (.agg #[.string ⟨#[110]⟩, .func (.func 58) #[] #[.pointer (some ⟨p0, 0, none⟩), .pointer (some ⟨p1, 0, none⟩)]]) rfl rfl rfl M4.out (by rfl) ?_; intro W5 m_ k_; have M5 := Aside0.mk m_; have B5 := Aside0.mk (B4.out.trans (k_.below (Nat.le_trans (by simp) B4.out.size) (fun i hi e => by omega))); have Cp5 := Aside0.mk (k_.blk Cp4.out (by have := Lp.out; omega)); clear m_ k_)
    | (go_at_call 36; ((with_reducible refine (of_gives g _ _ _ _).mono ?_); rintro e W6 ⟨q0, q1, rfl, l_, ⟨Tq, c_⟩, b_⟩; have M6 := Aside0.mk (blk_below M5.out b_); have B6 := Aside0.mk (b_tr B5.out b_); have Cp6 := Aside0.mk (blk_below Cp5.out b_); clear l_ c_ b_))
    | ((with_reducible refine gate_ (.insert 52 (.tmp 3) (.const (.string ⟨#[108, 111, 103]⟩)) (.tmp 22)) rfl ?_); refine wpList_put rfl (.tmp 3) (.const (.string ⟨#[108, 111, 103]⟩)) (.tmp 22) 52 9 59 rfl Tryz.underlying52 Tryz.underlying9 w.heap.size 4 (#[⟨.string ⟨#[99, 111, 110, 102]⟩, .agg #[.string ⟨#[110, 110, 110, 110, 110]⟩, .func (.func 33) #[.pointer (some ⟨g, 0, none⟩)] #[]], 0⟩, ⟨.string ⟨#[112, 97, 105, 114]⟩, .agg #[.string ⟨#[110]⟩, .func (.func 34) #[.pointer (some ⟨g, 0, none⟩)] #[]], 1⟩, ⟨.string ⟨#[114, 117, 110]⟩, .agg #[.string ⟨#[84]⟩, .func (.func 35) #[.pointer (some ⟨g, 0, none⟩)] #[]], 2⟩, ⟨.string ⟨#[115, 116, 97, 116, 101]⟩, .agg #[.string ⟨#[110]⟩, .func (.func 58) #[] #[.pointer (some ⟨p0, 0, none⟩), .pointer (some ⟨p1, 0, none⟩)]], 3⟩] : Array MapEntry) ⟨#[108, 111, 103]⟩ (.agg #[.string ⟨#[110]⟩, .func (.func 58) #[] #[.pointer (some ⟨q0, 0, none⟩), .pointer (some ⟨q1, 0, none⟩)]]) rfl rfl rfl M6.out (by rfl) ?_; intro W7 m_ k_; have M7 := Aside0.mk m_; have B7 := Aside0.mk (B6.out.trans (k_.below (Nat.le_trans (by simp) B6.out.size) (fun i hi e => by omega))); have Cp7 := Aside0.mk (k_.blk Cp6.out (by have := Lp.out; omega)); clear m_ k_)
    | ((with_reducible refine gate_ (.insert 52 (.tmp 3) (.const (.string ⟨#[117, 112]⟩)) (.tmp 25)) rfl ?_); refine wpList_put rfl (.tmp 3) (.const (.string ⟨#[117, 112]⟩)) (.tmp 25) 52 9 59 rfl Tryz.underlying52 Tryz.underlying9 w.heap.size 5 (#[⟨.string ⟨#[99, 111, 110, 102]⟩, .agg #[.string ⟨#[110, 110, 110, 110, 110]⟩, .func (.func 33) #[.pointer (some ⟨g, 0, none⟩)] #[]], 0⟩, ⟨.string ⟨#[112, 97, 105, 114]⟩, .agg #[.string ⟨#[110]⟩, .func (.func 34) #[.pointer (some ⟨g, 0, none⟩)] #[]], 1⟩, ⟨.string ⟨#[114, 117, 110]⟩, .agg #[.string ⟨#[84]⟩, .func (.func 35) #[.pointer (some ⟨g, 0, none⟩)] #[]], 2⟩, ⟨.string ⟨#[115, 116, 97, 116, 101]⟩, .agg #[.string ⟨#[110]⟩, .func (.func 58) #[] #[.pointer (some ⟨p0, 0, none⟩), .pointer (some ⟨p1, 0, none⟩)]], 3⟩, ⟨.string ⟨#[108, 111, 103]⟩, .agg #[.string ⟨#[110]⟩, .func (.func 58) #[] #[.pointer (some ⟨q0, 0, none⟩), .pointer (some ⟨q1, 0, none⟩)]], 4⟩] : Array MapEntry) ⟨#[117, 112]⟩ (.agg #[.string ⟨#[]⟩, .func (.func 39) #[.pointer (some ⟨g, 0, none⟩)] #[]]) rfl rfl rfl M7.out (by rfl) ?_; intro W8 m_ k_; have M8 := Aside0.mk m_; have B8 := Aside0.mk (B7.out.trans (k_.below (Nat.le_trans (by simp) B7.out.size) (fun i hi e => by omega))); have Cp8 := Aside0.mk (k_.blk Cp7.out (by have := Lp.out; omega)); clear m_ k_))
  go_ret
  exact ⟨w.heap.size, p0, p1, q0, q1, rfl, Nat.le_refl _, M8.out, ⟨Tp, Cp8.out⟩, Nat.le_of_lt Lp.out, B8.out⟩
theorem size_al_ (w : World) (o : Obj) : w.heap.size + 1 = (w.alloc o).heap.size := by simp only [World.alloc, Array.size_push]
/-- A script: its configuration, its verbs. -/
structure Scr (g r p0 p1 q0 q1 : Nat) (c : Cf) (W : World) : Prop where
  own : W.heap[g]? = some (scr c none 0 r)
  map : W.heap[r]? = some (.map (verbs g p0 p1 q0 q1) 6)
  box : ∃ T, W.heap[p0]? = some (.cells #[.pointer (some ⟨g, 0, none⟩)] T (0, 0))
  rg : r ≠ g
  pg : p0 ≠ g
theorem Scr.below {g r p0 p1 q0 q1 : Nat} {c : Cf} {W W' : World} (h : Scr g r p0 p1 q0 q1 c W) (hb : Below W.heap.size W W') : Scr g r p0 p1 q0 q1 c W' :=
  ⟨blk_below h.own hb, blk_below h.map hb, h.box.elim fun T hT => ⟨T, blk_below hT hb⟩, h.rg, h.pg⟩
def cBegun : Cf := ⟨6, 100, 2, 2, 0, []⟩
set_option maxHeartbeats 2000000 in
set_option maxRecDepth 100000 in
theorem begun_gives (w : World) : Calls Tryz.prog 14 #[] w fun e w' => ∃ g r p0 p1 q0 q1, e = .returned (.pointer (some ⟨g, 0, none⟩)) ∧ w.heap.size ≤ g ∧ Scr g r p0 p1 q0 q1 cBegun w' ∧ Below w.heap.size w w' := by
  have N0 := Aside0.mk (blk_new w (.cells #[.int .i64 6, .int .i64 100, .int .i64 2, .int .i64 2, .int .i64 0, .slice none 0 0, .pointer none, .map none] 54))
  have B0 := Aside0.mk (b_al w (.cells #[.int .i64 6, .int .i64 100, .int .i64 2, .int .i64 2, .int .i64 0, .slice none 0 0, .pointer none, .map none] 54))
  go_enter Tryz.func14, Tryz.ntmps14
  go_wp2_with (first
    | (go_at_call 20; ((with_reducible refine (commands_give _ _).mono ?_); rintro e W1 ⟨r, p0, p1, q0, q1, rfl, l_, m_, ⟨T, c_⟩, lp_, b_⟩; have N1 := Aside0.mk (blk_below N0.out b_); have M1 := Aside0.mk m_; have C1 := Aside0.mk c_; have B1 := Aside0.mk (b_tr B0.out b_); have y7 : W1.cell? ⟨w.heap.size, 7, none⟩ = some (.map none) := (blk_cell N1.out 7).trans rfl; have f7 := blk_frozen N1.out 7; have LR := Aside0.mk l_; have LP := Aside0.mk lp_; clear l_ m_ c_ b_ lp_)))
  go_ret
  have lr := LR.out
  have lp := LP.out
  simp only [size_al_ w _ |>.symm] at lr lp
  have hr : r ≠ w.heap.size := by omega
  have hp : p0 ≠ w.heap.size := by omega
  exact ⟨w.heap.size, r, p0, p1, q0, q1, rfl, Nat.le_refl _, ⟨blk_set N1.out 7 _, (Below.heap_setCell W1 ⟨w.heap.size, 7, none⟩ _ r hr).trans M1.out, ⟨T, (Below.heap_setCell W1 ⟨w.heap.size, 7, none⟩ _ p0 hp).trans C1.out⟩, hr, hp⟩, B1.out.setCell (Nat.le_refl _) _⟩
end Go.Proofs.YtoamchhmehpgoaaGreatDoor.PSJ
