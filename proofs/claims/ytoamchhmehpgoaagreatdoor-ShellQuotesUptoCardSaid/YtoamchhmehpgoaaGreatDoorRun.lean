/- The shell's Run at the law's known script. -/
import Derived.Test.YtoamchhmehpgoaaGreatDoorLine
namespace Go.Proofs.YtoamchhmehpgoaaGreatDoor.PSJ
open Go Go.RowKit Go.Proofs.YtoamchhmehpgoaaGreatDoorW.PrintWords Go.Proofs.YtoamchhmehpgoaaGreatDoorW.PrintLast Go.Proofs.YtoamchhmehpgoaaGreatDoorW.PrintMore
attribute [local go_sem] max2_int min2_int max_two min_two max_three min_three max_four min_four
set_option linter.unusedVariables false
set_option linter.unusedSimpArgs false
theorem info_u8_ : (Tryz.prog.info? 5).map (fun i => (i.zero, i.size, i.bytes)) = some (some (.int .u8 0), 1, 1) := by kernel_rfl
theorem own_kp {w w' : World} {base : Nat} {e : TypeId} {size n : Nat} {v : Value} {xs : List Value} {g : Nat} (h : w.ownsRow base e size v n xs) (k : Kp (fun q => q = g) w w') (hg : g < base) : w'.ownsRow base e size v n xs :=
  own_other h (row := some g) ⟨k.os, k.tape, k.output, k.size, fun i hi hn => k.block i hi (fun e => hn (by rw [e]))⟩ (by
    cases hv : v.ownBlock with
    | none => exact .inl rfl
    | some b =>
      refine .inr (fun e => ?_)
      obtain rfl := Option.some.inj e
      have := own_base h _ hv
      omega)
def outs : Nat → List Int
  | 0 => ([] : List Int)
  | 1 => ([110, 111, 110, 101, 10] : List Int)
  | 2 => ([110, 111, 110, 101, 10, 111, 107, 10] : List Int)
  | 3 => ([110, 111, 110, 101, 10, 111, 107, 10, 110, 111, 110, 101, 10] : List Int)
  | _ => ([110, 111, 110, 101, 10, 111, 107, 10, 110, 111, 110, 101, 10, 119, 111, 114, 100, 10] : List Int)
def confs : Nat → Cf
  | 0 => cBegun
  | 1 => cBegun
  | 2 => ⟨6, 50, 1, 1, 0, []⟩
  | 3 => ⟨6, 50, 1, 1, 0, []⟩
  | _ => ⟨6, 50, 1, 1, 0, []⟩
set_option maxHeartbeats 4000000 in
set_option maxRecDepth 100000 in
theorem run_says (m : Int) (w : World) (hm : w.cell? ⟨0, 0, none⟩ = some (.int .i64 m)) :
    Calls Tryz.prog 10 #[.string ⟨#[117, 112, 10, 99, 111, 110, 102, 32, 54, 32, 53, 48, 32, 49, 32, 49, 32, 48, 10, 115, 116, 97, 116, 101, 32, 48, 10, 108, 111, 103, 32, 120, 10]⟩] w fun e w' => e = .returned (.string ⟨#[110, 111, 110, 101, 10, 111, 107, 10, 110, 111, 110, 101, 10, 119, 111, 114, 100, 10]⟩) ∧ Below w.heap.size w w' := by
  have KP : Calls Tryz.prog 13 #[.string ⟨#[117, 112, 10, 99, 111, 110, 102, 32, 54, 32, 53, 48, 32, 49, 32, 49, 32, 48, 10, 115, 116, 97, 116, 101, 32, 48, 10, 108, 111, 103, 32, 120, 10]⟩, .string ⟨#[10]⟩] w fun e w' => e = .returned (.slice (some ⟨w.heap.size, 0, none⟩) 5 5) ∧ w' = w.alloc (.cells #[.string ⟨#[117, 112]⟩, .string ⟨#[99, 111, 110, 102, 32, 54, 32, 53, 48, 32, 49, 32, 49, 32, 48]⟩, .string ⟨#[115, 116, 97, 116, 101, 32, 48]⟩, .string ⟨#[108, 111, 103, 32, 120]⟩, .string ⟨#[]⟩] 9) :=
    Tryz.strings_Split ⟨#[117, 112, 10, 99, 111, 110, 102, 32, 54, 32, 53, 48, 32, 49, 32, 49, 32, 48, 10, 115, 116, 97, 116, 101, 32, 48, 10, 108, 111, 103, 32, 120, 10]⟩ ⟨#[10]⟩ m w (by decide) hm (by decide)
  have L0 := Aside0.mk (blk_new w (.cells #[.string ⟨#[117, 112]⟩, .string ⟨#[99, 111, 110, 102, 32, 54, 32, 53, 48, 32, 49, 32, 49, 32, 48]⟩, .string ⟨#[115, 116, 97, 116, 101, 32, 48]⟩, .string ⟨#[108, 111, 103, 32, 120]⟩, .string ⟨#[]⟩] 9))
  have B0 := Aside0.mk (b_al w (.cells #[.string ⟨#[117, 112]⟩, .string ⟨#[99, 111, 110, 102, 32, 54, 32, 53, 48, 32, 49, 32, 49, 32, 48]⟩, .string ⟨#[115, 116, 97, 116, 101, 32, 48]⟩, .string ⟨#[108, 111, 103, 32, 120]⟩, .string ⟨#[]⟩] 9))
  clear hm
  go_enter Tryz.func10, Tryz.ntmps10
  go_wp2_with (first
    | (go_at_call 13; refine KP.mono ?_; rintro e w' ⟨rfl, rfl⟩)
    | (go_at_call 14; (with_reducible refine (begun_gives _).mono ?_); rintro e W2 ⟨g, r, p0, p1, q0, q1, rfl, hg, hS, hb⟩; have L2 := Aside0.mk (blk_below L0.out hb); have B2 := Aside0.mk (b_tr B0.out hb); have S2 := Aside0.mk hS; have G2 := Aside0.mk (show w.heap.size < g from Nat.lt_of_lt_of_le (by rw [← size_al_]; exact Nat.lt_succ_self _) hg); clear hg hS hb))
  generalize hn : w.heap.size = n at *
  have HN := Aside0.mk hn
  clear hn
  go_loopw [33, 5] (fun i v w' => ∃ k : Nat, i = .int .i64 k ∧ k ≤ 4 ∧ Aside0 (w'.heap[n]? = some (.cells #[.string ⟨#[117, 112]⟩, .string ⟨#[99, 111, 110, 102, 32, 54, 32, 53, 48, 32, 49, 32, 49, 32, 48]⟩, .string ⟨#[115, 116, 97, 116, 101, 32, 48]⟩, .string ⟨#[108, 111, 103, 32, 120]⟩, .string ⟨#[]⟩] 9)) ∧ Aside0 (w'.ownsRow W2.heap.size 5 1 v (outs k).length (nums .u8 (outs k))) ∧ Aside0 (Scr g r p0 p1 q0 q1 (confs k) w') ∧ Aside0 (Below n w w') ∧ Aside0 (W2.heap.size ≤ w'.heap.size)) (fun i _ _ => 4 - (intOf i).toNat)
  case atStart => exact ⟨0, rfl, by omega, L2, ⟨own_nil _ _ _ _⟩, S2, B2, ⟨Nat.le_refl _⟩⟩
  case round =>
    obtain ⟨k, rfl, hk, hL, hO, hS, hB, hZ⟩ := hrel
    match k, hk, hL, hO, hS with
    | 0, _, hL, hO, hS =>
      have y0 : wr.cell? ⟨n, 0, none⟩ = some (.string ⟨#[117, 112]⟩) := (blk_cell hL.out 0).trans rfl
      have hO1 : Aside0 (wr.ownsRow W2.heap.size 5 1 _ 0 (nums .u8 ([] : List Int))) := hO
      obtain ⟨Ao, co, hv⟩ := own_slice hO1.out
      subst hv
      have hlt := blk_lt hL.out
      have HLT := Aside0.mk hlt
      have gb := Aside0.mk (show g < W2.heap.size from blk_lt S2.out.own)
      clear hlt hO
      go_wp2_with (first
        | (go_at_call 15; ((with_reducible refine (line_up g r p0 p1 q0 q1 (confs 0) rfl _ hS.out).mono ?_); rintro e W3 ⟨rfl, hs, hk3⟩; have S3 := Aside0.mk hs; have O3 := Aside0.mk (own_kp hO1.out hk3 gb.out); have L3 := Aside0.mk (hk3.blk hL.out (Nat.ne_of_lt G2.out)); have B3 := Aside0.mk (show Below n w W3 from hB.out.trans (hk3.below (B := n) (Nat.le_of_lt HLT.out) (fun i hi e => by have := G2.out; omega))); have Z3 := Aside0.mk (Nat.le_trans hZ.out hk3.size); clear hs hk3))
        | ((with_reducible refine gate_builtin (b := .append) (xs := #[.tmp 56, .tmp 57]) rfl ?_); at_builtin; refine print_append_str (w0 := W3) W2.heap.size rfl (.tmp 56) (.tmp 57) 22 9 5 rfl Tryz.underlying22 Tryz.underlying9 info_u8_ (.slice Ao 0 co) ([] : List Int) ⟨#[110, 111, 110, 101]⟩ rfl rfl O3.out (Below.refl _ _) Z3.out (by decide) ?_; intro v4 W4 ho4 hb4 hg4; have O4 : Aside0 (W4.ownsRow W2.heap.size 5 1 v4 4 (nums .u8 ([110, 111, 110, 101] : List Int))) := ⟨ho4⟩; have Z4 := Aside0.mk (Nat.le_trans Z3.out hb4.size); have H4 := Aside0.mk hb4; obtain ⟨A4, c4, hv4⟩ := own_slice O4.out; subst hv4; clear ho4 hb4 hg4)
        | ((with_reducible refine gate_builtin (b := .append) (xs := #[.tmp 58, .tmp 59]) rfl ?_); at_builtin; refine print_append_num (w0 := W4) W2.heap.size rfl (.tmp 58) (.tmp 59) 22 5 .u8 1 rfl Tryz.underlying22 info_u8_ (by decide) (.slice A4 4 c4) ([110, 111, 110, 101] : List Int) 10 rfl rfl O4.out (Below.refl _ _) Z4.out (by decide) ?_; intro v5 W5 ho5 hb5 hg5 _; have O5 : Aside0 (W5.ownsRow W2.heap.size 5 1 v5 (outs 1).length (nums .u8 (outs 1))) := ⟨ho5⟩; have Z5 := Aside0.mk (Nat.le_trans Z4.out hb5.size); have H5 := Aside0.mk hb5; obtain ⟨A5, c5, hv5⟩ := own_slice O5.out; subst hv5; clear ho5 hb5 hg5))
      go_roundw
      case rel =>
        have H := H4.out.trans H5.out
        have hn2 : n < W2.heap.size := Nat.lt_trans G2.out gb.out
        exact ⟨1, rfl, by omega, ⟨(H.block n hn2).trans L3.out⟩, O5, ⟨⟨(H.block g gb.out).trans S3.out.own, (H.block r (blk_lt S2.out.map)).trans S3.out.map, S3.out.box.elim fun T hT => ⟨T, (H.block p0 (S2.out.box.elim fun _ h => blk_lt h)).trans hT⟩, S3.out.rg, S3.out.pg⟩⟩, ⟨B3.out.trans (H.mono (Nat.le_of_lt hn2))⟩, Z5⟩
      case measure => simp [intOf]
    | 1, _, hL, hO, hS =>
      have y0 : wr.cell? ⟨n, 1, none⟩ = some (.string ⟨#[99, 111, 110, 102, 32, 54, 32, 53, 48, 32, 49, 32, 49, 32, 48]⟩) := (blk_cell hL.out 1).trans rfl
      have hO1 : Aside0 (wr.ownsRow W2.heap.size 5 1 _ 5 (nums .u8 ([110, 111, 110, 101, 10] : List Int))) := hO
      obtain ⟨Ao, co, hv⟩ := own_slice hO1.out
      subst hv
      have hlt := blk_lt hL.out
      have HLT := Aside0.mk hlt
      have gb := Aside0.mk (show g < W2.heap.size from blk_lt S2.out.own)
      clear hlt hO
      go_wp2_with (first
        | (go_at_call 15; ((with_reducible refine (line_conf g r p0 p1 q0 q1 (confs 1) rfl _ hS.out).mono ?_); rintro e W3 ⟨rfl, hs, hk3⟩; have S3 := Aside0.mk hs; have O3 := Aside0.mk (own_kp hO1.out hk3 gb.out); have L3 := Aside0.mk (hk3.blk hL.out (Nat.ne_of_lt G2.out)); have B3 := Aside0.mk (show Below n w W3 from hB.out.trans (hk3.below (B := n) (Nat.le_of_lt HLT.out) (fun i hi e => by have := G2.out; omega))); have Z3 := Aside0.mk (Nat.le_trans hZ.out hk3.size); clear hs hk3))
        | ((with_reducible refine gate_builtin (b := .append) (xs := #[.tmp 56, .tmp 57]) rfl ?_); at_builtin; refine print_append_str (w0 := W3) W2.heap.size rfl (.tmp 56) (.tmp 57) 22 9 5 rfl Tryz.underlying22 Tryz.underlying9 info_u8_ (.slice Ao 5 co) ([110, 111, 110, 101, 10] : List Int) ⟨#[111, 107]⟩ rfl rfl O3.out (Below.refl _ _) Z3.out (by decide) ?_; intro v4 W4 ho4 hb4 hg4; have O4 : Aside0 (W4.ownsRow W2.heap.size 5 1 v4 7 (nums .u8 ([110, 111, 110, 101, 10, 111, 107] : List Int))) := ⟨ho4⟩; have Z4 := Aside0.mk (Nat.le_trans Z3.out hb4.size); have H4 := Aside0.mk hb4; obtain ⟨A4, c4, hv4⟩ := own_slice O4.out; subst hv4; clear ho4 hb4 hg4)
        | ((with_reducible refine gate_builtin (b := .append) (xs := #[.tmp 58, .tmp 59]) rfl ?_); at_builtin; refine print_append_num (w0 := W4) W2.heap.size rfl (.tmp 58) (.tmp 59) 22 5 .u8 1 rfl Tryz.underlying22 info_u8_ (by decide) (.slice A4 7 c4) ([110, 111, 110, 101, 10, 111, 107] : List Int) 10 rfl rfl O4.out (Below.refl _ _) Z4.out (by decide) ?_; intro v5 W5 ho5 hb5 hg5 _; have O5 : Aside0 (W5.ownsRow W2.heap.size 5 1 v5 (outs 2).length (nums .u8 (outs 2))) := ⟨ho5⟩; have Z5 := Aside0.mk (Nat.le_trans Z4.out hb5.size); have H5 := Aside0.mk hb5; obtain ⟨A5, c5, hv5⟩ := own_slice O5.out; subst hv5; clear ho5 hb5 hg5))
      go_roundw
      case rel =>
        have H := H4.out.trans H5.out
        have hn2 : n < W2.heap.size := Nat.lt_trans G2.out gb.out
        exact ⟨2, rfl, by omega, ⟨(H.block n hn2).trans L3.out⟩, O5, ⟨⟨(H.block g gb.out).trans S3.out.own, (H.block r (blk_lt S2.out.map)).trans S3.out.map, S3.out.box.elim fun T hT => ⟨T, (H.block p0 (S2.out.box.elim fun _ h => blk_lt h)).trans hT⟩, S3.out.rg, S3.out.pg⟩⟩, ⟨B3.out.trans (H.mono (Nat.le_of_lt hn2))⟩, Z5⟩
      case measure => simp [intOf]
    | 2, _, hL, hO, hS =>
      have y0 : wr.cell? ⟨n, 2, none⟩ = some (.string ⟨#[115, 116, 97, 116, 101, 32, 48]⟩) := (blk_cell hL.out 2).trans rfl
      have hO1 : Aside0 (wr.ownsRow W2.heap.size 5 1 _ 8 (nums .u8 ([110, 111, 110, 101, 10, 111, 107, 10] : List Int))) := hO
      obtain ⟨Ao, co, hv⟩ := own_slice hO1.out
      subst hv
      have hlt := blk_lt hL.out
      have HLT := Aside0.mk hlt
      have gb := Aside0.mk (show g < W2.heap.size from blk_lt S2.out.own)
      clear hlt hO
      go_wp2_with (first
        | (go_at_call 15; ((with_reducible refine (line_state g r p0 p1 q0 q1 (confs 2) rfl _ hS.out).mono ?_); rintro e W3 ⟨rfl, hs, hk3⟩; have S3 := Aside0.mk hs; have O3 := Aside0.mk (own_kp hO1.out hk3 gb.out); have L3 := Aside0.mk (hk3.blk hL.out (Nat.ne_of_lt G2.out)); have B3 := Aside0.mk (show Below n w W3 from hB.out.trans (hk3.below (B := n) (Nat.le_of_lt HLT.out) (fun i hi e => by have := G2.out; omega))); have Z3 := Aside0.mk (Nat.le_trans hZ.out hk3.size); clear hs hk3))
        | ((with_reducible refine gate_builtin (b := .append) (xs := #[.tmp 56, .tmp 57]) rfl ?_); at_builtin; refine print_append_str (w0 := W3) W2.heap.size rfl (.tmp 56) (.tmp 57) 22 9 5 rfl Tryz.underlying22 Tryz.underlying9 info_u8_ (.slice Ao 8 co) ([110, 111, 110, 101, 10, 111, 107, 10] : List Int) ⟨#[110, 111, 110, 101]⟩ rfl rfl O3.out (Below.refl _ _) Z3.out (by decide) ?_; intro v4 W4 ho4 hb4 hg4; have O4 : Aside0 (W4.ownsRow W2.heap.size 5 1 v4 12 (nums .u8 ([110, 111, 110, 101, 10, 111, 107, 10, 110, 111, 110, 101] : List Int))) := ⟨ho4⟩; have Z4 := Aside0.mk (Nat.le_trans Z3.out hb4.size); have H4 := Aside0.mk hb4; obtain ⟨A4, c4, hv4⟩ := own_slice O4.out; subst hv4; clear ho4 hb4 hg4)
        | ((with_reducible refine gate_builtin (b := .append) (xs := #[.tmp 58, .tmp 59]) rfl ?_); at_builtin; refine print_append_num (w0 := W4) W2.heap.size rfl (.tmp 58) (.tmp 59) 22 5 .u8 1 rfl Tryz.underlying22 info_u8_ (by decide) (.slice A4 12 c4) ([110, 111, 110, 101, 10, 111, 107, 10, 110, 111, 110, 101] : List Int) 10 rfl rfl O4.out (Below.refl _ _) Z4.out (by decide) ?_; intro v5 W5 ho5 hb5 hg5 _; have O5 : Aside0 (W5.ownsRow W2.heap.size 5 1 v5 (outs 3).length (nums .u8 (outs 3))) := ⟨ho5⟩; have Z5 := Aside0.mk (Nat.le_trans Z4.out hb5.size); have H5 := Aside0.mk hb5; obtain ⟨A5, c5, hv5⟩ := own_slice O5.out; subst hv5; clear ho5 hb5 hg5))
      go_roundw
      case rel =>
        have H := H4.out.trans H5.out
        have hn2 : n < W2.heap.size := Nat.lt_trans G2.out gb.out
        exact ⟨3, rfl, by omega, ⟨(H.block n hn2).trans L3.out⟩, O5, ⟨⟨(H.block g gb.out).trans S3.out.own, (H.block r (blk_lt S2.out.map)).trans S3.out.map, S3.out.box.elim fun T hT => ⟨T, (H.block p0 (S2.out.box.elim fun _ h => blk_lt h)).trans hT⟩, S3.out.rg, S3.out.pg⟩⟩, ⟨B3.out.trans (H.mono (Nat.le_of_lt hn2))⟩, Z5⟩
      case measure => simp [intOf]
    | 3, _, hL, hO, hS =>
      have y0 : wr.cell? ⟨n, 3, none⟩ = some (.string ⟨#[108, 111, 103, 32, 120]⟩) := (blk_cell hL.out 3).trans rfl
      have hO1 : Aside0 (wr.ownsRow W2.heap.size 5 1 _ 13 (nums .u8 ([110, 111, 110, 101, 10, 111, 107, 10, 110, 111, 110, 101, 10] : List Int))) := hO
      obtain ⟨Ao, co, hv⟩ := own_slice hO1.out
      subst hv
      have hlt := blk_lt hL.out
      have HLT := Aside0.mk hlt
      have gb := Aside0.mk (show g < W2.heap.size from blk_lt S2.out.own)
      clear hlt hO
      go_wp2_with (first
        | (go_at_call 15; ((with_reducible refine (line_logx g r p0 p1 q0 q1 (confs 3) rfl _ hS.out).mono ?_); rintro e W3 ⟨rfl, hs, hk3⟩; have S3 := Aside0.mk hs; have O3 := Aside0.mk (own_kp hO1.out hk3 gb.out); have L3 := Aside0.mk (hk3.blk hL.out (Nat.ne_of_lt G2.out)); have B3 := Aside0.mk (show Below n w W3 from hB.out.trans (hk3.below (B := n) (Nat.le_of_lt HLT.out) (fun i hi e => by have := G2.out; omega))); have Z3 := Aside0.mk (Nat.le_trans hZ.out hk3.size); clear hs hk3))
        | ((with_reducible refine gate_builtin (b := .append) (xs := #[.tmp 56, .tmp 57]) rfl ?_); at_builtin; refine print_append_str (w0 := W3) W2.heap.size rfl (.tmp 56) (.tmp 57) 22 9 5 rfl Tryz.underlying22 Tryz.underlying9 info_u8_ (.slice Ao 13 co) ([110, 111, 110, 101, 10, 111, 107, 10, 110, 111, 110, 101, 10] : List Int) ⟨#[119, 111, 114, 100]⟩ rfl rfl O3.out (Below.refl _ _) Z3.out (by decide) ?_; intro v4 W4 ho4 hb4 hg4; have O4 : Aside0 (W4.ownsRow W2.heap.size 5 1 v4 17 (nums .u8 ([110, 111, 110, 101, 10, 111, 107, 10, 110, 111, 110, 101, 10, 119, 111, 114, 100] : List Int))) := ⟨ho4⟩; have Z4 := Aside0.mk (Nat.le_trans Z3.out hb4.size); have H4 := Aside0.mk hb4; obtain ⟨A4, c4, hv4⟩ := own_slice O4.out; subst hv4; clear ho4 hb4 hg4)
        | ((with_reducible refine gate_builtin (b := .append) (xs := #[.tmp 58, .tmp 59]) rfl ?_); at_builtin; refine print_append_num (w0 := W4) W2.heap.size rfl (.tmp 58) (.tmp 59) 22 5 .u8 1 rfl Tryz.underlying22 info_u8_ (by decide) (.slice A4 17 c4) ([110, 111, 110, 101, 10, 111, 107, 10, 110, 111, 110, 101, 10, 119, 111, 114, 100] : List Int) 10 rfl rfl O4.out (Below.refl _ _) Z4.out (by decide) ?_; intro v5 W5 ho5 hb5 hg5 _; have O5 : Aside0 (W5.ownsRow W2.heap.size 5 1 v5 (outs 4).length (nums .u8 (outs 4))) := ⟨ho5⟩; have Z5 := Aside0.mk (Nat.le_trans Z4.out hb5.size); have H5 := Aside0.mk hb5; obtain ⟨A5, c5, hv5⟩ := own_slice O5.out; subst hv5; clear ho5 hb5 hg5))
      go_roundw
      case rel =>
        have H := H4.out.trans H5.out
        have hn2 : n < W2.heap.size := Nat.lt_trans G2.out gb.out
        exact ⟨4, rfl, by omega, ⟨(H.block n hn2).trans L3.out⟩, O5, ⟨⟨(H.block g gb.out).trans S3.out.own, (H.block r (blk_lt S2.out.map)).trans S3.out.map, S3.out.box.elim fun T hT => ⟨T, (H.block p0 (S2.out.box.elim fun _ h => blk_lt h)).trans hT⟩, S3.out.rg, S3.out.pg⟩⟩, ⟨B3.out.trans (H.mono (Nat.le_of_lt hn2))⟩, Z5⟩
      case measure => simp [intOf]
    | 4, _, hL, hO, hS =>
      have hcv := own_string (P := Tryz.prog) (src := 22) (dst := 9) Tryz.underlying22 Tryz.underlying5 Tryz.underlying9 hO.out
      obtain ⟨Ao, co, hv⟩ := own_slice hO.out
      subst hv
      go_wp2
      go_ret
      exact ⟨by rfl, by rw [HN.out]; exact hB.out⟩
    | k + 5, hk, _, _, _ => exact absurd hk (by omega)
end Go.Proofs.YtoamchhmehpgoaaGreatDoor.PSJ
