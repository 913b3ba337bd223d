/- A part of the proof, without conditions of its own. -/
import Derived.Test.YtgcgglmmfgmaoaaGreatKp3
set_option linter.unusedVariables false
set_option linter.unusedSimpArgs false
set_option maxHeartbeats 16000000
set_option maxRecDepth 100000
section
namespace Go.Proofs.YtgcgglmmfgmaoaaGreat.PK
open Go Go.RowKit Go.Proofs.YtgcgglmmfgmaoaaGreatW.PrintWords Go.Proofs.YtgcgglmmfgmaoaaGreatW.PrintLast Go.Proofs.YtgcgglmmfgmaoaaGreatW.PrintMore
attribute [local go_sem] max2_int min2_int max_two min_two
def sendL (p : NtP) (round s : Int) : List Int → List Nz → List (List UInt8) → List (List UInt8) → List Nz × List (List UInt8) × List (List UInt8)
 | [], nz, sent, sends => (nz, sent, sends)
 | i :: r, nz, sent, sends =>
  let f := frameZ p round nz i.toNat s
  let sent' := match f.1 with | some f => sent.set i.toNat (textL_ f) | none => sent
  sendL p round s r f.2 sent' (sends ++ [sent'.getD i.toNat []])
structure Sl where
 sent : List (List UInt8)
 up : List Sd
 down : List Sd
 took : List (Option S117)
structure TkR (W : World) (N b : Nat) (l : List (Option S117)) : Prop where
 n : l.length = N
 h : ∃ q : List (Option Nat), q.length = N ∧ W.heap[b]? = some (.cells (q.map fun x => Value.pointer (x.map fun g => ⟨g, 0, none⟩)).toArray 128 (0, 0)) ∧ ∀ i : Nat, match q[i]?, l[i]? with
  | some (some g), some (some f) => ∃ v, W.heap[g]? = some (.cells (frV f v) 117 (0, 0)) ∧ RdT k55 55 W v f.f4
  | some none, some none => True
  | none, none => True
  | _, _ => False
theorem RdT.sides {W : World} {b : Nat} {l : List Sd} (h : W.heap[b]? = some (.cells (sdsV l).toArray 127 (0, 0))) (hl : l.length ≤ 1000) : RdT k127 127 W (.slice (some ⟨b, 0, none⟩) l.length l.length) (l.map sdS) := by
 refine ⟨some ⟨b, 0, none⟩, l.length, by rw [List.length_map], by rw [List.length_map]; exact Nat.le_refl _, ⟨rfl, by rw [List.length_map]; omega, fun _ => ⟨_, rfl, fun j x hj => ?_⟩⟩, fun ad hA => ?_⟩
 ·rw [List.getElem?_map] at hj
  obtain ⟨y, hy, rfl⟩ := Option.map_eq_some_iff.1 hj
  refine ⟨[.string (S y.d), .string (S y.s), .string (S y.o), .int .i64 y.far], rfl, k127_mk W (sdS y), fun i u hi => ?_⟩
  have hi4 : i < 4 := (List.getElem?_eq_some_iff.1 hi).1
  have hjl : j < l.length := (List.getElem?_eq_some_iff.1 hy).1
  rw [add_plain, show k127.sz = 4 from rfl, blk_cell h, List.getElem?_toArray, Nat.mul_comm j 4, sdsV_at l j i hjl hi4, List.getD_eq_getElem?_getD, hy]
  exact hi
 ·obtain rfl := Option.some.inj hA
  exact ⟨_, h⟩
structure SlR (W : World) (N : Nat) (sl : Sl) (v1 v2 v3 v4 : Value) : Prop where
 sent : RdT Kd.string 9 W v1 (sl.sent.map S)
 sn : sl.sent.length = N
 up : RdT k127 127 W v2 (sl.up.map sdS)
 un : sl.up.length = N
 down : RdT k127 127 W v3 (sl.down.map sdS)
 dn : sl.down.length = N
 took : ∃ tb, v4 = .slice (some ⟨tb, 0, none⟩) N N ∧ TkR W N tb sl.took
def tookZ (p : NtP) (round s : Int) (ow : List Int) (nz : List Nz) (up down : List Sd) (i : Nat) : Option S117 :=
 if (gz nz i).1.st = 0 ∨ (i : Int) ∈ ow then none else pickL p.c round s (up.getD i zSd).d (up.getD i zSd).o (down.getD i zSd).d (down.getD i zSd).o (up.getD i zSd).far (down.getD i zSd).far
def runZ (p : NtP) (round : Int) (nz : List Nz) (s : Int) : List Nz × Sl :=
 let ow := p.c.owners s
 let f := sendL p round s ow nz (List.replicate p.N []) []
 if ow.length = 0 then (f.1, ⟨f.2.1, List.replicate p.N zSd, List.replicate p.N zSd, List.replicate p.N none⟩)
 else
  let up := sidesZ p round s 1 f.2.2 (statesZ f.1) (devsZ p round f.1 (rd ow (ow.length - 1 : Int)).toNat)
  let down := sidesZ p round s (-1) f.2.2 (statesZ f.1) (devsZ p round f.1 (rd ow 0).toNat)
  (f.1, ⟨f.2.1, up, down, (List.range p.N).map (tookZ p round s ow f.1 up down)⟩)
theorem strs_R {W : World} {b : Nat} {l : List (List UInt8)} (h : W.heap[b]? = some (.cells (l.map fun t => Value.string (S t)).toArray 9 (0, 0))) (hl : l.length ≤ 100000) : RdT Kd.string 9 W (.slice (some ⟨b, 0, none⟩) l.length l.length) (l.map S) := by
 refine ⟨some ⟨b, 0, none⟩, l.length, by rw [List.length_map], by rw [List.length_map]; exact Nat.le_refl _, ⟨rfl, by rw [List.length_map]; omega, fun _ => ⟨_, rfl, fun j x hj => ?_⟩⟩, fun ad hA => ?_⟩
 ·refine ⟨[.string x], rfl, rfl, fun i u hi => ?_⟩
  have hi2 : i < 1 := (List.getElem?_eq_some_iff.1 hi).1
  obtain rfl : i = 0 := by omega
  rw [List.getElem?_map] at hj
  obtain ⟨y, hy, rfl⟩ := Option.map_eq_some_iff.1 hj
  rw [add_plain, blk_cell h, List.getElem?_toArray]
  simp only [show Kd.string.sz = 1 from rfl, Nat.mul_one, Nat.add_zero, Nat.zero_add, List.getElem?_map, hy] at hi ⊢
  simpa using hi
 ·obtain rfl := Option.some.inj hA
  exact ⟨_, h⟩
theorem TkR.nils {W : World} {N b : Nat} (h : W.heap[b]? = some (.cells (List.replicate N (Value.pointer none)).toArray 128 (0, 0))) : TkR W N b (List.replicate N none) := by
 refine ⟨by simp, List.replicate N none, by simp, by simpa using h, fun i => ?_⟩
 by_cases hi : i < N
 ·simp [List.getElem?_replicate, hi]
 ·simp [List.getElem?_replicate, hi]
theorem go_len {p : WvP} : ∀ (l : List Int) (k : Int) (s : List Sd) (d : List Bool), (p.go l k s d).length = s.length
 | [], _, _, _ => rfl
 | x :: l, k, s, d => by rw [WvP.go, go_len l]; simp
theorem sidesZ_len {p : NtP} {round s dir : Int} {sends : List (List UInt8)} {states devs : List Int} : (sidesZ p round s dir sends states devs).length = p.N := by
 unfold sidesZ WvP.runL
 rw [go_len, putO_len]; simp
def SdOK (l : List Sd) : Prop := ∀ x ∈ l, x.d.length ≤ 900 ∧ x.o.length ≤ 900
theorem go_ok {p : WvP} (hk : p.KD) : ∀ (l : List Int) (k : Int) (s : List Sd) (d : List Bool), SdOK s → SdOK (p.go l k s d)
 | [], _, _, _, h => h
 | x :: l, k, s, d, h => by
  rw [WvP.go]
  refine go_ok hk l _ _ _ (fun y hy => ?_)
  have ho : OutOK s := fun z hz => (h z hz).2
  rcases List.mem_or_eq_of_mem_set hy with h1 | h1
  ·exact h y h1
  ·subst h1
   refine ⟨?_, side_ok hk s d ho x _⟩
   show (p.dirL s d x (k + 1)).length ≤ 900
   unfold WvP.dirL
   have := come_len hk s d ho x 1
   split
   ·exact Nat.le_trans (guardL_le _ _ _ _) this
   ·exact this
theorem putO_ok2 : ∀ (l : List Int) (q : List (List UInt8)) (s : List Sd), SdOK s → (∀ t ∈ q, t.length ≤ 900) → SdOK (putO l q s)
 | [], _, s, h, _ => h
 | _ :: _, [], s, h, _ => h
 | x :: l, t :: q, s, h, hq => putO_ok2 l q _ (fun y hy => by
  rcases List.mem_or_eq_of_mem_set hy with h1 | h1
  ·exact h y h1
  ·subst h1
   refine ⟨?_, hq t (by simp)⟩
   show (s.getD x.toNat zSd).d.length ≤ 900
   rw [List.getD_eq_getElem?_getD]
   cases hc : s[x.toNat]? with
   | none => simp [zSd]
   | some z => exact (h z (List.mem_of_getElem? hc)).1) (fun u hu => hq u (by simp [hu]))
theorem sidesZ_ok {p : NtP} (ok0 : p.OK) {round : Int} (hr0 : 0 ≤ round) (hr1 : round ≤ 1000) {s dir : Int} {sends : List (List UInt8)} (h9 : ∀ t ∈ sends, t.length ≤ 900) {states devs : List Int} : SdOK (sidesZ p round s dir sends states devs) := by
 unfold sidesZ WvP.runL
 refine go_ok ?_ _ _ _ _ ?_
 ·intro x hx base hb
  have hx2 := ok0.hs.f.tx x hx
  exact ⟨doneL_len ok0.hc x hx2 round s base hb, fun W hW => done_calls p.c ok0.hc x hx2 round s hr0 (by omega) base hb _ _ W hW⟩
 ·exact putO_ok2 _ _ _ (fun x hx => by rw [List.eq_of_mem_replicate hx]; simp [zSd]) h9
def fillT (T : Nat → Option S117) (i N : Nat) : List (Option S117) := (List.range i).map T ++ List.replicate (N - i) none
theorem fillT_step {T : Nat → Option S117} {i N : Nat} (h : i < N) : (fillT T i N).set i (T i) = fillT T (i + 1) N := by
 unfold fillT
 rw [List.set_append_right _ _ (by simp), show N - i = (N - (i + 1)) + 1 by omega, List.replicate_succ, List.range_succ, List.map_append, List.append_assoc]
 congr 1
 simp
theorem fillT_none {T : Nat → Option S117} {i N : Nat} (h : i < N) (ht : T i = none) : fillT T (i + 1) N = fillT T i N := by
 unfold fillT
 rw [show N - i = (N - (i + 1)) + 1 by omega, List.replicate_succ, List.range_succ, List.map_append, List.append_assoc, List.map_singleton, ht]
 rfl
theorem fillT_all {T : Nat → Option S117} {N : Nat} : fillT T N N = (List.range N).map T := by unfold fillT; simp
theorem fillT_zero {T : Nat → Option S117} {N : Nat} : fillT T 0 N = List.replicate N none := by unfold fillT; simp
theorem TkR.keep {W W' : World} {N b : Nat} {l : List (Option S117)} (h : TkR W N b l) {F : Nat → Prop} (hk : Kp F W W') (hF : ∀ k cells T, F k → W.heap[k]? = some (.cells cells T (0, 0)) → T ≠ 128 ∧ T ≠ 117 ∧ T ≠ 55) : TkR W' N b l := by
 obtain ⟨q, h1, h2, h3⟩ := h.h
 refine ⟨h.n, q, h1, hk.blk h2 (fun e => (hF _ _ _ e h2).1 rfl), fun i => ?_⟩
 have h4 := h3 i
 revert h4
 cases q[i]? with
 | none => cases l[i]? <;> exact id
 | some a =>
  cases a with
  | none => cases l[i]? with
   | none => exact id
   | some c => cases c <;> exact id
  | some g => cases l[i]? with
   | none => exact id
   | some c => cases c with
    | none => exact id
    | some f =>
     rintro ⟨v, h5, h6⟩
     exact ⟨v, hk.blk h5 (fun e => (hF _ _ _ e h5).2.1 rfl), h6.kp plain_item hk (fun k cells e hc => (hF _ _ _ e hc).2.2 rfl)⟩
theorem TkR.below {W W' : World} {N b : Nat} {l : List (Option S117)} (h : TkR W N b l) (hb : Below W.heap.size W W') : TkR W' N b l := h.keep (F := fun _ => False) (Kp.of hb) (fun _ _ _ e => e.elim)
theorem TkR.set {W : World} {N b : Nat} {l : List (Option S117)} (h : TkR W N b l) {i g : Nat} {f : S117} {v : Value} (hi : i < N) (hg : W.heap[g]? = some (.cells (frV f v) 117 (0, 0))) (hr : RdT k55 55 W v f.f4) : TkR (W.setCell ⟨b, i, none⟩ (.pointer (some ⟨g, 0, none⟩))) N b (l.set i (some f)) := by
 obtain ⟨q, h1, h2, h3⟩ := h.h
 have hk := (Kp.refl (fun k => k = b) W).set_ (p := ⟨b, i, none⟩) (.inl rfl) (.pointer (some ⟨g, 0, none⟩))
 refine ⟨by rw [List.length_set]; exact h.n, q.set i (some g), by rw [List.length_set]; exact h1, ?_, fun j => ?_⟩
 ·refine blk_put h2 i _ ?_
  rw [List.setIfInBounds_toArray, List.map_set]
  rfl
 ·by_cases hj : j = i
  ·subst hj
   rw [List.getElem?_set_self (by omega), List.getElem?_set_self (by rw [h.n]; exact hi)]
   exact ⟨v, hk.blk hg (fun e => ne_of_types hg h2 (by decide) e), hr.kp plain_item hk (fun k cells e hc => ne_of_types hc h2 (by decide) e)⟩
  ·rw [List.getElem?_set_ne (fun e => hj e.symm), List.getElem?_set_ne (fun e => hj e.symm)]
   have h4 := h3 j
   revert h4
   cases q[j]? with
   | none => cases l[j]? <;> exact id
   | some a =>
    cases a with
    | none => cases l[j]? with
     | none => exact id
     | some c => cases c <;> exact id
    | some g => cases l[j]? with
     | none => exact id
     | some c => cases c with
      | none => exact id
      | some f =>
       rintro ⟨v, h5, h6⟩
       exact ⟨v, hk.blk h5 (fun e => ne_of_types h5 h2 (by decide) e), h6.kp plain_item hk (fun k cells e hc => ne_of_types hc h2 (by decide) e)⟩
theorem side_at {W : World} {A : Option Addr} {N m : Nat} {l : List Sd} (h : RdT k127 127 W (.slice A N m) (l.map sdS)) (hl : l.length = N) {i : Nat} (hi : i < N) : ∃ ad : Addr, A = some ad ∧ W.cell? (ad.add (i * 4)) = some (.string (S (l.getD i zSd).d)) ∧ W.cell? ⟨(ad.add (i * 4)).block, (ad.add (i * 4)).off + 1, none⟩ = some (.string (S (l.getD i zSd).s)) ∧ W.cell? ⟨(ad.add (i * 4)).block, (ad.add (i * 4)).off + 2, none⟩ = some (.string (S (l.getD i zSd).o)) ∧ W.cell? ⟨(ad.add (i * 4)).block, (ad.add (i * 4)).off + 3, none⟩ = some (.int .i64 (l.getD i zSd).far) := by
 obtain ⟨A', m', e, _, hC, _⟩ := h
 injection e with e1 e2 e3
 subst e1
 obtain ⟨ad, h1, h2⟩ := at_T127 hC (i : Int) (by omega) (by rw [List.length_map]; omega)
 have hr : rd_T127 (l.map sdS) (i : Int) = sdS (l.getD i zSd) := by
  unfold rd_T127
  rw [Int.toNat_natCast, List.getD_eq_getElem?_getD, List.getElem?_map, List.getD_eq_getElem?_getD, List.getElem?_eq_getElem (show i < l.length by omega)]
  rfl
 rw [hr, Int.toNat_natCast] at h2
 exact ⟨ad, h1, h2⟩
theorem pick_any (c : Cf) (hc : c.OK) (round slot : Int) (hr0 : 0 ≤ round) (hr1 : round ≤ 1000000) (a b : Sd) (h1 : a.d.length ≤ 900) (h2 : a.o.length ≤ 900) (h3 : b.d.length ≤ 900) (h4 : b.o.length ≤ 900) (A : Option Addr) (m : Nat) (w : World) (hr : c.C w A m) :
  Calls Tryz.prog 77 #[c.v A m, .int .i64 round, .int .i64 slot, .agg #[.string (S a.d), .string (S a.s), .string (S a.o), .int .i64 a.far], .agg #[.string (S b.d), .string (S b.s), .string (S b.o), .int .i64 b.far]] w fun e w' => ∃ (f : S117) (A9 : Option Addr) (m9 : Nat) (bb : Bool), e = .returned (.tuple #[.agg (frV f (.slice A9 f.f4.length m9)), .bool bb]) ∧ RdT k55 55 w' (.slice A9 f.f4.length m9) f.f4 ∧ Below w.heap.size w w' ∧ pickL c round slot a.d a.o b.d b.o a.far b.far = (if bb = true then some f else none) := by
 cases hp : pickL c round slot a.d a.o b.d b.o a.far b.far with
 | none =>
  refine (pick_no c hc round slot hr0 hr1 a.d a.s a.o b.d b.s b.o a.far b.far h1 h2 h3 h4 hp A m w hr).mono ?_
  rintro e w' ⟨rfl, hb⟩
  exact ⟨⟨0, 0, 0, ⟨0, 0⟩, []⟩, none, 0, false, rfl, RdT.nil _ _ _, hb, rfl⟩
 | some f =>
  refine (pick_yes c hc round slot hr0 hr1 a.d a.s a.o b.d b.s b.o a.far b.far h1 h2 h3 h4 f hp A m w hr).mono ?_
  rintro e w' ⟨⟨v, rfl, hR⟩, hb⟩
  obtain ⟨A9, m9, hv, -⟩ := id hR
  subst hv
  exact ⟨f, A9, m9, true, rfl, hR, hb, rfl⟩
theorem SdOK.at {l : List Sd} (h : SdOK l) {i : Nat} (hi : i < l.length) : (l.getD i zSd).d.length ≤ 900 ∧ (l.getD i zSd).o.length ≤ 900 := by
 rw [List.getD_eq_getElem?_getD, List.getElem?_eq_getElem hi]
 exact h _ (List.getElem_mem hi)
theorem info_slot4 : (Tryz.prog.info? 95).map (·.size) = some 4 := by kernel_rfl
theorem info_str9 : (Tryz.prog.info? 9).map (fun i => (i.zero, i.size, i.bytes)) = some (some (.string ⟨#[]⟩), 1, 16) := by kernel_rfl
theorem info_ptr9 : (Tryz.prog.info? 128).map (fun i => (i.zero, i.size, i.bytes)) = some (some (.pointer none), 1, 8) := by kernel_rfl
theorem str_keep {T base : Nat} {W W' : World} {v : Value} {xs : List ByteArray} {ok : Nat → Prop} (h : Kd.R Kd.string T W base ok v xs) (hb : ∀ g, v.ownBlock = some g → W'.heap[g]? = W.heap[g]?) : Kd.R Kd.string T W' base ok v xs := by
 obtain ⟨h0, inner, ho, hr⟩ := h
 refine ⟨h0, inner, ?_, hr⟩
 obtain ⟨h1, h2⟩ := ho
 refine ⟨h1, ?_⟩
 rcases h2 with h2 | ⟨g, cap, cur, hv, hg, hh, r⟩
 ·exact .inl h2
 ·refine .inr ⟨g, cap, cur, hv, hg, ?_, r⟩
  rw [hb g (by rw [hv]; rfl)]; exact hh
structure RS (p : NtP) (s : Int) (b tb xb kb sb base : Nat) (A5 : Option Addr) (c5 : Nat) (ow : List Int) (W : World) (sent sends : List (List UInt8)) (v : Value) : Prop where
 a0 : W.heap[b]? = some (.cells #[.pointer (some ⟨p.g, 0, none⟩)] 38 (0, 0))
 a1 : W.heap[b + 1]? = some (.cells #[.int .i64 s] 3 (0, 0))
 a2 : W.heap[b + 2]? = some (.cells #[.slice none 0 0, .slice none 0 0, .slice none 0 0, .slice none 0 0] 95 (0, 0))
 t : W.heap[tb]? = some (.cells #[.slice (some ⟨xb, 0, none⟩) p.N p.N, .slice none 0 0, .slice none 0 0, .slice (some ⟨kb, 0, none⟩) p.N p.N] 95 (0, 0))
 x : W.heap[xb]? = some (.cells (sent.map fun t => Value.string (S t)).toArray 9 (0, 0))
 k : W.heap[kb]? = some (.cells (List.replicate p.N (Value.pointer none)).toArray 128 (0, 0))
 sb : W.heap[sb]? = some (.cells #[v] 91 (0, 0))
 sr : Kd.R Kd.string 9 W base (fun _ => True) v (sends.map S)
 ow : RdT (Kd.int .i64) 3 W (.slice A5 ow.length c5) ow
 lt : xb < base
 n : sent.length = p.N
def QT (T : Nat) : Prop := T = 90 ∨ T = 140
theorem RS.kp {p : NtP} {s : Int} {b tb xb kb sb base : Nat} {A5 : Option Addr} {c5 : Nat} {ow : List Int} {W W' : World} {sent sends : List (List UInt8)} {v : Value} (h : RS p s b tb xb kb sb base A5 c5 ow W sent sends v) {F : Nat → Prop} (hk : Kp F W W') (hF : ∀ k, F k → ∃ cells T, W.heap[k]? = some (.cells cells T (0, 0)) ∧ QT T) : RS p s b tb xb kb sb base A5 c5 ow W' sent sends v := by
 have ne : ∀ {k : Nat} {cells : Array Value} {T : Nat}, W.heap[k]? = some (.cells cells T (0, 0)) → ¬ QT T → ¬ F k := fun {k cells T} hc hT hf => by
  obtain ⟨c2, T2, h2, h3⟩ := hF k hf
  rw [hc] at h2
  simp only [Option.some.injEq, Obj.cells.injEq] at h2
  exact hT (h2.2.1 ▸ h3)
 exact ⟨hk.blk h.a0 (ne h.a0 (by simp [QT])), hk.blk h.a1 (ne h.a1 (by simp [QT])), hk.blk h.a2 (ne h.a2 (by simp [QT])), hk.blk h.t (ne h.t (by simp [QT])), hk.blk h.x (ne h.x (by simp [QT])), hk.blk h.k (ne h.k (by simp [QT])), hk.blk h.sb (ne h.sb (by simp [QT])), str_keep h.sr (fun g hg => by
  obtain ⟨cells, hc⟩ := Kd.R_typed h.sr g hg
  exact hk.block g (blk_lt hc) (ne hc (by simp [QT]))), h.ow.kp plain_int hk (fun k cells hf hc => ne hc (by simp [QT]) hf), h.lt, h.n⟩
theorem RS.below {p : NtP} {s : Int} {b tb xb kb sb base : Nat} {A5 : Option Addr} {c5 : Nat} {ow : List Int} {W W' : World} {sent sends : List (List UInt8)} {v : Value} (h : RS p s b tb xb kb sb base A5 c5 ow W sent sends v) (hb : Below W.heap.size W W') : RS p s b tb xb kb sb base A5 c5 ow W' sent sends v :=
 h.kp (F := fun _ => False) (Kp.of hb) (fun _ e => e.elim)
theorem FN.qt {p : NtP} {W : World} {nb : Nat} {round : Int} {nz : List Nz} {sv cv : Value} (h : NB p W nb round nz sv cv) (k : Nat) (hk : FN nb nz k) : ∃ cells T, W.heap[k]? = some (.cells cells T (0, 0)) ∧ QT T := by
 rcases hk with rfl | ⟨z, hz, rfl⟩
 ·exact ⟨_, _, h.hn, .inl rfl⟩
 ·exact ⟨_, _, (h.hx z hz).hq, .inr rfl⟩
theorem frameZ_f4 {p : NtP} {W : World} {nb : Nat} {round : Int} {nz : List Nz} {sv cv : Value} (h : NB p W nb round nz sv cv) {i : Nat} (hi : i < nz.length) (s : Int) {f : S117} (hf : (frameZ p round nz i s).1 = some f) : f.f4.length ≤ p.Q := by
 have hg := (h.at i hi).hgn
 unfold frameZ at hf
 split at hf
 ·simp at hf
 ·split at hf
  ·obtain rfl := Option.some.inj hf
   show (if s < p.c.n then echoZ p (gz nz i).1 else []).length ≤ p.Q
   split
   ·unfold echoZ
    split
    ·simp
    ·rcases hg with ⟨e, _⟩ | e
     ·contradiction
     ·omega
   ·simp
  ·obtain rfl := Option.some.inj hf
   simp
theorem frameZ_fn {p : NtP} {nb : Nat} {round : Int} {nz : List Nz} {i : Nat} (hi : i < nz.length) (s : Int) {k : Nat} (h : FN nb (frameZ p round nz i s).2 k) : FN nb nz k := by
 unfold frameZ at h
 split at h
 ·exact h
 ·split at h
  ·simp only at h
   refine FN.set (i := i) hi ?_ h
   rfl
  ·exact h
theorem frameZ_n {p : NtP} {round : Int} {nz : List Nz} {i : Nat} (s : Int) : (frameZ p round nz i s).2.length = nz.length := by
 unfold frameZ
 split
 ·rfl
 ·split
  ·simp
  ·rfl
theorem map_set_S (l : List (List UInt8)) (j : Nat) (t : List UInt8) : ((l.map fun t => Value.string (S t)).toArray.setIfInBounds j (.string (S t))) = ((l.set j t).map fun t => Value.string (S t)).toArray := by
 rw [List.setIfInBounds_toArray, List.map_set]
theorem RS.put {p : NtP} {s : Int} {b tb xb kb sb base : Nat} {A5 : Option Addr} {c5 : Nat} {ow : List Int} {W : World} {sent sends : List (List UInt8)} {v : Value} (h : RS p s b tb xb kb sb base A5 c5 ow W sent sends v) (j : Nat) (t : List UInt8) : RS p s b tb xb kb sb base A5 c5 ow (W.setCell ⟨xb, j, none⟩ (.string (S t))) (sent.set j t) sends v := by
 have hk := (Kp.refl (fun k => k = xb) W).set_ (p := ⟨xb, j, none⟩) (.inl rfl) (.string (S t))
 have ne : ∀ {k : Nat} {cells : Array Value} {T : Nat}, W.heap[k]? = some (.cells cells T (0, 0)) → T ≠ 9 → ¬ (k = xb) := fun hc hT e => ne_of_types hc h.x hT e
 exact ⟨hk.blk h.a0 (ne h.a0 (by decide)), hk.blk h.a1 (ne h.a1 (by decide)), hk.blk h.a2 (ne h.a2 (by decide)), hk.blk h.t (ne h.t (by decide)), blk_put h.x j _ (by rw [map_set_S]), hk.blk h.k (ne h.k (by decide)), hk.blk h.sb (ne h.sb (by decide)), str_keep h.sr (fun g hg => by
  obtain ⟨cells, hc⟩ := Kd.R_typed h.sr g hg
  refine hk.block g (blk_lt hc) (fun e => ?_)
  have := R_base h.sr g hg
  have := h.lt
  omega), h.ow.kp plain_int hk (fun k cells hf hc => ne hc (by decide) hf), h.lt, by rw [List.length_set]; exact h.n⟩
theorem RS.app {p : NtP} {s : Int} {b tb xb kb sb base : Nat} {A5 : Option Addr} {c5 : Nat} {ow : List Int} {W W4 : World} {sent sends : List (List UInt8)} {v v4 : Value} {t : List UInt8} (h : RS p s b tb xb kb sb base A5 c5 ow W sent sends v) (hg : W.grownBy W4 v.ownBlock) (hr : Kd.R Kd.string 9 W4 base (fun _ => True) v4 (sends.map S ++ [S t])) : RS p s b tb xb kb sb base A5 c5 ow (W4.setCell ⟨sb, 0, none⟩ v4) sent (sends ++ [t]) v4 := by
 have h1 := Kp.grown_own hg
 have ne : ∀ {k : Nat} {cells : Array Value} {T : Nat}, W.heap[k]? = some (.cells cells T (0, 0)) → T ≠ 9 → ¬ (some k = v.ownBlock) := fun hc hT e => by
  obtain ⟨cells, hc2⟩ := Kd.R_typed h.sr _ e.symm
  exact ne_of_types hc hc2 hT rfl
 have hsb := h1.blk h.sb (ne h.sb (by decide))
 have hk := (Kp.refl (fun k => k = sb) W4).set_ (p := ⟨sb, 0, none⟩) (.inl rfl) v4
 have ne2 : ∀ {k : Nat} {cells : Array Value} {T : Nat}, W4.heap[k]? = some (.cells cells T (0, 0)) → T ≠ 91 → ¬ (k = sb) := fun hc hT e => ne_of_types hc hsb hT e
 have both : ∀ {k : Nat} {cells : Array Value} {T : Nat}, W.heap[k]? = some (.cells cells T (0, 0)) → T ≠ 9 → T ≠ 91 → (W4.setCell ⟨sb, 0, none⟩ v4).heap[k]? = some (.cells cells T (0, 0)) := fun hc h1' h2' => by
  have a := h1.blk hc (ne hc h1')
  exact hk.blk a (ne2 a h2')
 have hx4 := h1.blk h.x (fun e => by
  have := R_base h.sr xb e.symm
  have := h.lt
  omega)
 refine ⟨both h.a0 (by decide) (by decide), both h.a1 (by decide) (by decide), both h.a2 (by decide) (by decide), both h.t (by decide) (by decide), hk.blk hx4 (ne2 hx4 (by decide)), both h.k (by decide) (by decide), blk_put hsb 0 _ (by rfl), ?_, (h.ow.kp plain_int h1 (fun k cells hf hc => ne hc (by decide) hf)).kp plain_int hk (fun k cells hf hc => ne2 hc (by decide) hf), h.lt, h.n⟩
 rw [List.map_append]
 exact str_keep hr (fun g hg => by
  obtain ⟨cells, hc⟩ := Kd.R_typed hr g hg
  exact hk.block g (blk_lt hc) (ne2 hc (by decide)))
theorem net_run (p : NtP) (ok0 : p.OK) (nb : Nat) (round : Int) (hr0 : 0 ≤ round) (hr1 : round ≤ 1000) (nz : List Nz) (sv cv : Value) (s : Int) (hs0 : 0 ≤ s) (hs1 : s < p.Q) (w : World) (h : NB p w nb round nz sv cv) :
  Calls Tryz.prog 44 #[.pointer (some ⟨p.g, 0, none⟩), .int .i64 s] w fun e w' => (∃ v1 v2 v3 v4, e = .returned (.agg #[v1, v2, v3, v4]) ∧ SlR w' p.N (runZ p round nz s).2 v1 v2 v3 v4) ∧ NB p w' nb round (runZ p round nz s).1 sv cv ∧ Kp (FN nb nz) w w' := by
 have ok := am ok0
 have HH := am h
 have hr := am (And.intro hr0 hr1)
 have hs := am (And.intro hs0 hs1)
 have hN12 := am (show p.N ≤ 12 ∧ p.c.n = p.N ∧ p.Q ≤ 15 by have := ok0.hc.n12; have := ok0.hN; have := slots_range ok0.hc; have := ok0.hQ; omega)
 obtain ⟨ow, how⟩ : ∃ ow, ow = p.c.owners s := ⟨_, rfl⟩
 have HOWE := am how
 have howl := am (show ow.length ≤ 2 from how ▸ owners_len p.c s)
 have KO := am (fun W hW => by
  have h := owners_calls p.c ok0.hc s (by have := hs.out; omega) (by have := hs.out; have := hN12.out; omega) p.A p.m W hW
  rw [← how] at h
  exact h)
 have hmk1 : ∀ W : World, (Instr.makeSlice 91 (.int .i64 p.c.n) (.int .i64 p.c.n)).run Tryz.prog W = .ok (.slice (some ⟨W.heap.size, 0, none⟩) p.N p.N) (W.alloc (.cells ((List.replicate p.N ([] : List UInt8)).map fun t => Value.string (S t)).toArray 9)) := fun W => by
  have h := make_run (P := Tryz.prog) 91 9 [.string ⟨#[]⟩] (.string ⟨#[]⟩) 16 Tryz.underlying91 info_str9 rfl (by simp) p.c.n p.N hN12.out.2.1 (by have := hN12.out; omega) (by omega) W
  rw [h, flat_one9]; simp
 have hmk2 : ∀ W : World, (Instr.makeSlice 93 (.int .i64 p.c.n) (.int .i64 p.c.n)).run Tryz.prog W = .ok (.slice (some ⟨W.heap.size, 0, none⟩) p.N p.N) (W.alloc (.cells (List.replicate p.N (Value.pointer none)).toArray 128)) := fun W => by
  have h := make_run (P := Tryz.prog) 93 128 [.pointer none] (.pointer none) 8 Tryz.underlying93 info_ptr9 rfl (by simp) p.c.n p.N hN12.out.2.1 (by have := hN12.out; omega) (by omega) W
  rw [h, flat_one9]
 clear h hr0 hr1 hs0 hs1 ok0 how
 obtain ⟨bn, hbn⟩ : ∃ b, b = w.heap.size := ⟨_, rfl⟩
 go_enter Tryz.func44, Tryz.ntmps44
 go_upto_region 1 with (fail)
 have HB := am (b_tr (b_tr (b_al w (.cells #[.pointer (some ⟨p.g, 0, none⟩)] 38)) (b_al _ (.cells #[.int .i64 s] 3))) (b_al _ (.cells #[.slice none 0 0, .slice none 0 0, .slice none 0 0, .slice none 0 0] 95)))
 have A0 := am (blk_alloc (blk_alloc (blk_new w (.cells #[.pointer (some ⟨p.g, 0, none⟩)] 38)) (.cells #[.int .i64 s] 3)) (.cells #[.slice none 0 0, .slice none 0 0, .slice none 0 0, .slice none 0 0] 95))
 have A1 := am (blk_alloc (blk_new (w.alloc (.cells #[.pointer (some ⟨p.g, 0, none⟩)] 38)) (.cells #[.int .i64 s] 3)) (.cells #[.slice none 0 0, .slice none 0 0, .slice none 0 0, .slice none 0 0] 95))
 have A2 := am (blk_new ((w.alloc (.cells #[.pointer (some ⟨p.g, 0, none⟩)] 38)).alloc (.cells #[.int .i64 s] 3)) (.cells #[.slice none 0 0, .slice none 0 0, .slice none 0 0, .slice none 0 0] 95))
 rw [show (w.alloc (.cells #[.pointer (some ⟨p.g, 0, none⟩)] 38)).heap.size = w.heap.size + 1 by simp] at A1
 rw [show ((w.alloc (.cells #[.pointer (some ⟨p.g, 0, none⟩)] 38)).alloc (.cells #[.int .i64 s] 3)).heap.size = w.heap.size + 2 by simp] at A2
 have HX := am (HH.out.below HB.out)
 generalize ((w.alloc (.cells #[.pointer (some ⟨p.g, 0, none⟩)] 38)).alloc (.cells #[.int .i64 s] 3)).alloc (.cells #[.slice none 0 0, .slice none 0 0, .slice none 0 0, .slice none 0 0] 95) = W1 at *
 have gg := HX.out.gcells
 have y0 := (bx.cell ⟨_, A0.out⟩)
 have y1 := (bx.cell ⟨_, A1.out⟩)
 have HN := am (below_drew (Below.refl W1.heap.size W1))
 refine startB (n := 7) (F := fun _ => False) (ds := []) (by kernel_rfl) rfl (fun hHeld => ?_)
 refine plan_ [.t 0 17, .p 1 18, .p 2 19, .t 3 20, .t 4 21] ?_
 repeat (first | refine jP ?_ | refine jW hHeld ?_ | refine jG ?_)
 refine planE ?_
 refine jO 5 (some 22) (fun K hK => ?_)
 refine kC Tryz.func67 #[p.c.v p.A p.m, .int .i64 s] ?_
 refine (KO.out _ (HX.out.im.below HN.out).C).mono ?_
 rintro e W5 ⟨v5, rfl, hR, hb⟩
 obtain ⟨A5, c5, rfl⟩ := Kd.R_slice hR
 have HOW := am (RdT.of_R hR)
 replace HN := am (b_tr HN.out hb)
 clear hb hR
 refine ⟨_, rfl, ?_⟩
 refine hK.out _ _ (Kp.of HN.out) (fun hHeld => ?_)
 clear hK K
 refine jM 22 ?_
 refine plan_ [.p 6 5] ?_
 repeat (first | refine jP ?_ | refine jW hHeld ?_ | refine jG ?_)
 refine planE ?_
 refine done_ (by kernel_rfl) ?_
 have n1 := am (HX.out.below HN.out)
 have n2 := am (b_tr HB.out HN.out)
 have n3 := am (blk_below A0.out HN.out)
 have n4 := am (blk_below A1.out HN.out)
 have n5 := am (blk_below A2.out HN.out)
 clear gg y0 y1 HX HB A0 A1 A2 HN hHeld KO
 have HX := n1
 have HB := n2
 have A0 := n3
 have A1 := n4
 have A2 := n5
 clear n1 n2 n3 n4 n5
 have gg := HX.out.gcells
 have y0 := (bx.cell ⟨_, A0.out⟩)
 go_wp2
 have HN := am (below_drew (Below.refl W5.heap.size W5))
 refine startB (n := 15) (F := fun _ => False) (ds := [14]) (by kernel_rfl) rfl (fun hHeld => ?_)
 refine plan_ [.t 0 23, .p 1 24, .p 2 25, .p 3 26, .t 4 27, .t 6 29, .p 7 30, .p 8 31, .p 9 32, .t 10 33] ?_
 repeat (first | refine jP ?_ | refine jW hHeld ?_ | refine jG ?_)
 refine planE ?_
 refine join_ (1) (#[true, true, true, true, true, true, true, true, true, true, true, true, true, true, false]) (fun (s_ : Nat × Nat × Nat) => [(28, .slice (some ⟨s_.1, 0, none⟩) p.N p.N), (34, .slice (some ⟨s_.2.1, 0, none⟩) p.N p.N), (35, .agg #[.slice (some ⟨s_.1, 0, none⟩) p.N p.N, .slice none 0 0, .slice none 0 0, .slice (some ⟨s_.2.1, 0, none⟩) p.N p.N]), (6, .pointer (some ⟨s_.2.2, 0, none⟩))]) (fun (s_ : Nat × Nat × Nat) (w' : World) => (Aside0 (W5.heap.size ≤ s_.1) ∧ Aside0 (w'.heap[s_.1]? = some (.cells ((List.replicate p.N ([] : List UInt8)).map fun t => Value.string (S t)).toArray 9 (0, 0)))) ∧ (Aside0 (W5.heap.size ≤ s_.2.1) ∧ Aside0 (w'.heap[s_.2.1]? = some (.cells (List.replicate p.N (Value.pointer none)).toArray 128 (0, 0)))) ∧ (Aside0 (W5.heap.size ≤ s_.2.2) ∧ Aside0 (w'.heap[s_.2.2]? = some (.cells #[.slice none 0 0, .slice none 0 0, .slice none 0 0, .slice none 0 0] 95 (0, 0)))) ∧ Aside0 (Below W5.heap.size W5 w')) ?_ (fun hJ => ?_)
 rotate_left
 refine threeB (i := 5) (j := 11) (k := 13) rfl rfl rfl rfl rfl rfl (by kernel_rfl) (by decide) (by decide) (by decide) (fun K hK => ?_) (fun K hK => ?_) (fun K hK => ?_)
 ·refine make_ev p.N (.cells ((List.replicate p.N ([] : List UInt8)).map fun t => Value.string (S t)).toArray 9) (by rfl) rfl (fun w' => by go_simp; try exact hmk1 w') (fun xb Wn hxe hxb hb => ?_)
  have HSXz := am (Nat.le_trans HN.out.size hxe)
  have n1_ := am (b_tr HN.out hb)
  first | (replace HSX := am (blk_below HSX.out hb)) | skip
  first | (replace HSK := am (blk_below HSK.out hb)) | skip
  first | (replace HST := am (blk_below HST.out hb)) | skip
  clear HN hb
  have HN := n1_
  clear n1_
  have HSX := am hxb
  clear hxb hxe
  refine hK.out _ _ (Kp.of HN.out) (fun hHeld => ?_)
  clear hK K
  refine jM 28 ?_
  refine twoB (i := 11) (j := 13) rfl rfl rfl rfl (by kernel_rfl) (by decide) (by decide) (fun K hK => ?_) (fun K hK => ?_)
  ·refine make_ev p.N (.cells (List.replicate p.N (Value.pointer none)).toArray 128) (by rfl) rfl (fun w' => by go_simp; try exact hmk2 w') (fun kb Wn hxe hxb hb => ?_)
   have HSKz := am (Nat.le_trans HN.out.size hxe)
   have n1_ := am (b_tr HN.out hb)
   first | (replace HSX := am (blk_below HSX.out hb)) | skip
   first | (replace HSK := am (blk_below HSK.out hb)) | skip
   first | (replace HST := am (blk_below HST.out hb)) | skip
   clear HN hb
   have HN := n1_
   clear n1_
   have HSK := am hxb
   clear hxb hxe
   refine hK.out _ _ (Kp.of HN.out) (fun hHeld => ?_)
   clear hK K
   refine jM 34 ?_
   refine plan_ [.p 12 35] ?_
   repeat (first | refine jP ?_ | refine jW hHeld ?_ | refine jG ?_)
   refine planE ?_
   refine jO 13 (some 6) (fun K hK => ?_)
   refine alloc_ev (.cells #[.slice none 0 0, .slice none 0 0, .slice none 0 0, .slice none 0 0] 95) (by rfl) rfl (fun w' => by go_simp; try rfl) (fun tb Wn hxe hxb hb => ?_)
   have HSTz := am (Nat.le_trans HN.out.size hxe)
   have n1_ := am (b_tr HN.out hb)
   first | (replace HSX := am (blk_below HSX.out hb)) | skip
   first | (replace HSK := am (blk_below HSK.out hb)) | skip
   first | (replace HST := am (blk_below HST.out hb)) | skip
   clear HN hb
   have HN := n1_
   clear n1_
   have HST := am hxb
   clear hxb hxe
   refine hK.out _ _ (Kp.of HN.out) (fun hHeld => ?_)
   clear hK K
   refine jM 6 ?_
   exact goJ (by kernel_rfl) (by simp only [putAll, s0, s1, s2, s3]) (hJ (xb, kb, tb) _ ⟨⟨HSXz, HSX⟩, ⟨HSKz, HSK⟩, ⟨HSTz, HST⟩, HN⟩)
  ·refine alloc_ev (.cells #[.slice none 0 0, .slice none 0 0, .slice none 0 0, .slice none 0 0] 95) (by rfl) rfl (fun w' => by go_simp; try rfl) (fun tb Wn hxe hxb hb => ?_)
   have HSTz := am (Nat.le_trans HN.out.size hxe)
   have n1_ := am (b_tr HN.out hb)
   first | (replace HSX := am (blk_below HSX.out hb)) | skip
   first | (replace HSK := am (blk_below HSK.out hb)) | skip
   first | (replace HST := am (blk_below HST.out hb)) | skip
   clear HN hb
   have HN := n1_
   clear n1_
   have HST := am hxb
   clear hxb hxe
   refine hK.out _ _ (Kp.of HN.out) (fun hHeld => ?_)
   clear hK K
   refine jM 6 ?_
   refine jO 11 (some 34) (fun K hK => ?_)
   refine make_ev p.N (.cells (List.replicate p.N (Value.pointer none)).toArray 128) (by rfl) rfl (fun w' => by go_simp; try exact hmk2 w') (fun kb Wn hxe hxb hb => ?_)
   have HSKz := am (Nat.le_trans HN.out.size hxe)
   have n1_ := am (b_tr HN.out hb)
   first | (replace HSX := am (blk_below HSX.out hb)) | skip
   first | (replace HSK := am (blk_below HSK.out hb)) | skip
   first | (replace HST := am (blk_below HST.out hb)) | skip
   clear HN hb
   have HN := n1_
   clear n1_
   have HSK := am hxb
   clear hxb hxe
   refine hK.out _ _ (Kp.of HN.out) (fun hHeld => ?_)
   clear hK K
   refine jM 34 ?_
   refine plan_ [.p 12 35] ?_
   repeat (first | refine jP ?_ | refine jW hHeld ?_ | refine jG ?_)
   refine planE ?_
   exact goJ (by kernel_rfl) (by simp only [putAll, s0, s1, s2, s3]) (hJ (xb, kb, tb) _ ⟨⟨HSXz, HSX⟩, ⟨HSKz, HSK⟩, ⟨HSTz, HST⟩, HN⟩)
 ·refine make_ev p.N (.cells (List.replicate p.N (Value.pointer none)).toArray 128) (by rfl) rfl (fun w' => by go_simp; try exact hmk2 w') (fun kb Wn hxe hxb hb => ?_)
  have HSKz := am (Nat.le_trans HN.out.size hxe)
  have n1_ := am (b_tr HN.out hb)
  first | (replace HSX := am (blk_below HSX.out hb)) | skip
  first | (replace HSK := am (blk_below HSK.out hb)) | skip
  first | (replace HST := am (blk_below HST.out hb)) | skip
  clear HN hb
  have HN := n1_
  clear n1_
  have HSK := am hxb
  clear hxb hxe
  refine hK.out _ _ (Kp.of HN.out) (fun hHeld => ?_)
  clear hK K
  refine jM 34 ?_
  refine twoB (i := 5) (j := 13) rfl rfl rfl rfl (by kernel_rfl) (by decide) (by decide) (fun K hK => ?_) (fun K hK => ?_)
  ·refine make_ev p.N (.cells ((List.replicate p.N ([] : List UInt8)).map fun t => Value.string (S t)).toArray 9) (by rfl) rfl (fun w' => by go_simp; try exact hmk1 w') (fun xb Wn hxe hxb hb => ?_)
   have HSXz := am (Nat.le_trans HN.out.size hxe)
   have n1_ := am (b_tr HN.out hb)
   first | (replace HSX := am (blk_below HSX.out hb)) | skip
   first | (replace HSK := am (blk_below HSK.out hb)) | skip
   first | (replace HST := am (blk_below HST.out hb)) | skip
   clear HN hb
   have HN := n1_
   clear n1_
   have HSX := am hxb
   clear hxb hxe
   refine hK.out _ _ (Kp.of HN.out) (fun hHeld => ?_)
   clear hK K
   refine jM 28 ?_
   refine plan_ [.p 12 35] ?_
   repeat (first | refine jP ?_ | refine jW hHeld ?_ | refine jG ?_)
   refine planE ?_
   refine jO 13 (some 6) (fun K hK => ?_)
   refine alloc_ev (.cells #[.slice none 0 0, .slice none 0 0, .slice none 0 0, .slice none 0 0] 95) (by rfl) rfl (fun w' => by go_simp; try rfl) (fun tb Wn hxe hxb hb => ?_)
   have HSTz := am (Nat.le_trans HN.out.size hxe)
   have n1_ := am (b_tr HN.out hb)
   first | (replace HSX := am (blk_below HSX.out hb)) | skip
   first | (replace HSK := am (blk_below HSK.out hb)) | skip
   first | (replace HST := am (blk_below HST.out hb)) | skip
   clear HN hb
   have HN := n1_
   clear n1_
   have HST := am hxb
   clear hxb hxe
   refine hK.out _ _ (Kp.of HN.out) (fun hHeld => ?_)
   clear hK K
   refine jM 6 ?_
   exact goJ (by kernel_rfl) (by simp only [putAll, s0, s1, s2, s3]) (hJ (xb, kb, tb) _ ⟨⟨HSXz, HSX⟩, ⟨HSKz, HSK⟩, ⟨HSTz, HST⟩, HN⟩)
  ·refine alloc_ev (.cells #[.slice none 0 0, .slice none 0 0, .slice none 0 0, .slice none 0 0] 95) (by rfl) rfl (fun w' => by go_simp; try rfl) (fun tb Wn hxe hxb hb => ?_)
   have HSTz := am (Nat.le_trans HN.out.size hxe)
   have n1_ := am (b_tr HN.out hb)
   first | (replace HSX := am (blk_below HSX.out hb)) | skip
   first | (replace HSK := am (blk_below HSK.out hb)) | skip
   first | (replace HST := am (blk_below HST.out hb)) | skip
   clear HN hb
   have HN := n1_
   clear n1_
   have HST := am hxb
   clear hxb hxe
   refine hK.out _ _ (Kp.of HN.out) (fun hHeld => ?_)
   clear hK K
   refine jM 6 ?_
   refine jO 5 (some 28) (fun K hK => ?_)
   refine make_ev p.N (.cells ((List.replicate p.N ([] : List UInt8)).map fun t => Value.string (S t)).toArray 9) (by rfl) rfl (fun w' => by go_simp; try exact hmk1 w') (fun xb Wn hxe hxb hb => ?_)
   have HSXz := am (Nat.le_trans HN.out.size hxe)
   have n1_ := am (b_tr HN.out hb)
   first | (replace HSX := am (blk_below HSX.out hb)) | skip
   first | (replace HSK := am (blk_below HSK.out hb)) | skip
   first | (replace HST := am (blk_below HST.out hb)) | skip
   clear HN hb
   have HN := n1_
   clear n1_
   have HSX := am hxb
   clear hxb hxe
   refine hK.out _ _ (Kp.of HN.out) (fun hHeld => ?_)
   clear hK K
   refine jM 28 ?_
   refine plan_ [.p 12 35] ?_
   repeat (first | refine jP ?_ | refine jW hHeld ?_ | refine jG ?_)
   refine planE ?_
   exact goJ (by kernel_rfl) (by simp only [putAll, s0, s1, s2, s3]) (hJ (xb, kb, tb) _ ⟨⟨HSXz, HSX⟩, ⟨HSKz, HSK⟩, ⟨HSTz, HST⟩, HN⟩)
 ·refine alloc_ev (.cells #[.slice none 0 0, .slice none 0 0, .slice none 0 0, .slice none 0 0] 95) (by rfl) rfl (fun w' => by go_simp; try rfl) (fun tb Wn hxe hxb hb => ?_)
  have HSTz := am (Nat.le_trans HN.out.size hxe)
  have n1_ := am (b_tr HN.out hb)
  first | (replace HSX := am (blk_below HSX.out hb)) | skip
  first | (replace HSK := am (blk_below HSK.out hb)) | skip
  first | (replace HST := am (blk_below HST.out hb)) | skip
  clear HN hb
  have HN := n1_
  clear n1_
  have HST := am hxb
  clear hxb hxe
  refine hK.out _ _ (Kp.of HN.out) (fun hHeld => ?_)
  clear hK K
  refine jM 6 ?_
  refine twoB (i := 5) (j := 11) rfl rfl rfl rfl (by kernel_rfl) (by decide) (by decide) (fun K hK => ?_) (fun K hK => ?_)
  ·refine make_ev p.N (.cells ((List.replicate p.N ([] : List UInt8)).map fun t => Value.string (S t)).toArray 9) (by rfl) rfl (fun w' => by go_simp; try exact hmk1 w') (fun xb Wn hxe hxb hb => ?_)
   have HSXz := am (Nat.le_trans HN.out.size hxe)
   have n1_ := am (b_tr HN.out hb)
   first | (replace HSX := am (blk_below HSX.out hb)) | skip
   first | (replace HSK := am (blk_below HSK.out hb)) | skip
   first | (replace HST := am (blk_below HST.out hb)) | skip
   clear HN hb
   have HN := n1_
   clear n1_
   have HSX := am hxb
   clear hxb hxe
   refine hK.out _ _ (Kp.of HN.out) (fun hHeld => ?_)
   clear hK K
   refine jM 28 ?_
   refine jO 11 (some 34) (fun K hK => ?_)
   refine make_ev p.N (.cells (List.replicate p.N (Value.pointer none)).toArray 128) (by rfl) rfl (fun w' => by go_simp; try exact hmk2 w') (fun kb Wn hxe hxb hb => ?_)
   have HSKz := am (Nat.le_trans HN.out.size hxe)
   have n1_ := am (b_tr HN.out hb)
   first | (replace HSX := am (blk_below HSX.out hb)) | skip
   first | (replace HSK := am (blk_below HSK.out hb)) | skip
   first | (replace HST := am (blk_below HST.out hb)) | skip
   clear HN hb
   have HN := n1_
   clear n1_
   have HSK := am hxb
   clear hxb hxe
   refine hK.out _ _ (Kp.of HN.out) (fun hHeld => ?_)
   clear hK K
   refine jM 34 ?_
   refine plan_ [.p 12 35] ?_
   repeat (first | refine jP ?_ | refine jW hHeld ?_ | refine jG ?_)
   refine planE ?_
   exact goJ (by kernel_rfl) (by simp only [putAll, s0, s1, s2, s3]) (hJ (xb, kb, tb) _ ⟨⟨HSXz, HSX⟩, ⟨HSKz, HSK⟩, ⟨HSTz, HST⟩, HN⟩)
  ·refine make_ev p.N (.cells (List.replicate p.N (Value.pointer none)).toArray 128) (by rfl) rfl (fun w' => by go_simp; try exact hmk2 w') (fun kb Wn hxe hxb hb => ?_)
   have HSKz := am (Nat.le_trans HN.out.size hxe)
   have n1_ := am (b_tr HN.out hb)
   first | (replace HSX := am (blk_below HSX.out hb)) | skip
   first | (replace HSK := am (blk_below HSK.out hb)) | skip
   first | (replace HST := am (blk_below HST.out hb)) | skip
   clear HN hb
   have HN := n1_
   clear n1_
   have HSK := am hxb
   clear hxb hxe
   refine hK.out _ _ (Kp.of HN.out) (fun hHeld => ?_)
   clear hK K
   refine jM 34 ?_
   refine jO 5 (some 28) (fun K hK => ?_)
   refine make_ev p.N (.cells ((List.replicate p.N ([] : List UInt8)).map fun t => Value.string (S t)).toArray 9) (by rfl) rfl (fun w' => by go_simp; try exact hmk1 w') (fun xb Wn hxe hxb hb => ?_)
   have HSXz := am (Nat.le_trans HN.out.size hxe)
   have n1_ := am (b_tr HN.out hb)
   first | (replace HSX := am (blk_below HSX.out hb)) | skip
   first | (replace HSK := am (blk_below HSK.out hb)) | skip
   first | (replace HST := am (blk_below HST.out hb)) | skip
   clear HN hb
   have HN := n1_
   clear n1_
   have HSX := am hxb
   clear hxb hxe
   refine hK.out _ _ (Kp.of HN.out) (fun hHeld => ?_)
   clear hK K
   refine jM 28 ?_
   refine plan_ [.p 12 35] ?_
   repeat (first | refine jP ?_ | refine jW hHeld ?_ | refine jG ?_)
   refine planE ?_
   exact goJ (by kernel_rfl) (by simp only [putAll, s0, s1, s2, s3]) (hJ (xb, kb, tb) _ ⟨⟨HSXz, HSX⟩, ⟨HSKz, HSK⟩, ⟨HSTz, HST⟩, HN⟩)
 rintro ⟨xb, kb, tb⟩ W2 ⟨⟨HSXz, HSX⟩, ⟨HSKz, HSK⟩, ⟨HSTz, HST⟩, HN⟩
 have hHeld := Kp.of (F := fun _ => False) HN.out
 simp only
 refine norm_ (a' := _) (by simp only [putAll, s0, s1, s2, s3]; rfl) ?_
 refine jL 14 none (fun K hK => ?_)
 refine store_ev (by rfl) rfl _ _ _ rfl tb 0 95 #[.slice (some ⟨xb, 0, none⟩) p.N p.N, .slice none 0 0, .slice none 0 0, .slice (some ⟨kb, 0, none⟩) p.N p.N] [.slice none 0 0, .slice none 0 0, .slice none 0 0, .slice none 0 0] rfl (by rfl) HST.out (by simp) info_slot4 (by simp [Value.oneCell']) (fun W3 h3 k3 => ?_)
 have HT3 := am h3
 have K3 := am k3
 clear h3 k3
 refine hK.out _ _ ?_
 clear hK K
 refine done_ (by kernel_rfl) ?_
 have BX := am (below_kp HN.out K3.out HSTz.out HN.out.size)
 have hxs := am (show w.heap.size ≤ xb ∧ w.heap.size ≤ kb ∧ w.heap.size ≤ tb ∧ w.heap.size ≤ W3.heap.size ∧ w.heap.size + 2 < tb from by
  have f := blk_lt A2.out
  have a := HB.out.size; have b : W5.heap.size ≤ xb := HSXz.out; have c : W5.heap.size ≤ kb := HSKz.out; have d : W5.heap.size ≤ tb := HSTz.out; have e := BX.out.size
  omega)
 have n1 := am (HX.out.below BX.out)
 have n2 := am (b_tr HB.out BX.out)
 have n3 := am (show RS p s w.heap.size tb xb kb W3.heap.size W3.heap.size A5 c5 ow (W3.alloc (.cells #[.slice none 0 0] 91)) (List.replicate p.N []) [] (.slice none 0 0) from by
  have bx3 := b_tr BX.out (b_al W3 (.cells #[.slice none 0 0] 91))
  have h3 : W3.heap[xb]? = some (.cells ((List.replicate p.N ([] : List UInt8)).map fun t => Value.string (S t)).toArray 9 (0, 0)) := K3.out.blk HSX.out (fun e => ne_of_types HSX.out HST.out (by decide) e)
  exact ⟨blk_below A0.out bx3, blk_below A1.out bx3, blk_below A2.out bx3, blk_alloc (show W3.heap[tb]? = some (.cells #[.slice (some ⟨xb, 0, none⟩) p.N p.N, .slice none 0 0, .slice none 0 0, .slice (some ⟨kb, 0, none⟩) p.N p.N] 95 (0, 0)) from HT3.out) _, blk_alloc h3 _, blk_alloc (K3.out.blk HSK.out (fun e => ne_of_types HSK.out HST.out (by decide) e)) _, blk_new _ _, Kd.R_nil _ _ _ _ _, HOW.out.below bx3, blk_lt h3, by simp⟩)
 clear gg y0 HX HB A0 A1 A2 HN hHeld BX K3 HT3 HST HSX HSK HSXz HSKz HSTz HOW
 have HX := n1
 have HB := n2
 have HRS := n3
 clear n1 n2 n3
 clear hmk1 hmk2
 go_upto_region 4 with (fail)
 have n1 := am (HX.out.below (b_al W3 (.cells #[.slice none 0 0] 91)))
 have n2 := am (b_tr HB.out (b_al W3 (.cells #[.slice none 0 0] 91)))
 clear HX HB
 have HX := n1
 have HB := n2
 clear n1 n2
 generalize W3.alloc (.cells #[.slice none 0 0] 91) = W4 at *
 generalize W3.heap.size = sb at *
 obtain ⟨fin, hfin⟩ : ∃ fin, fin = sendL p round s ow nz (List.replicate p.N []) [] := ⟨_, rfl⟩
 have HFI := am hfin
 clear hfin
 have hl2 := howl.out
 go_wp2
 go_loopw [38] (fun v w' => ∃ k : Nat, v = .int .i64 k ∧ k ≤ ow.length ∧ Aside0 (∃ nzx sent sends vs, NB p w' nb round nzx sv cv ∧ RS p s w.heap.size tb xb kb sb sb A5 c5 ow w' sent sends vs ∧ sendL p round s (ow.drop k) nzx sent sends = fin ∧ sends.length = k ∧ (∀ t ∈ sends, t.length ≤ 900) ∧ (∀ t ∈ sent, t.length ≤ 900) ∧ (∀ k, FN nb nzx k → FN nb nz k)) ∧ Aside0 (Kp (FN nb nz) w w')) (fun v _ => ow.length - (intOf v).toNat)
 case atStart => exact ⟨0, rfl, Nat.zero_le _, ⟨nz, _, _, _, HX.out, HRS.out, HFI.out.symm, rfl, by simp, fun t ht => by rw [List.eq_of_mem_replicate ht]; simp, fun k h => h⟩, ⟨Kp.of HB.out⟩⟩
 case round =>
  clear HX HRS HB
  obtain ⟨k, rfl, hk, hS, hK⟩ := hrel
  obtain ⟨nzx, sent, sends, vs, hN, hRS, hfi, hsk, hs9, ht9, hfn⟩ := hS.out
  by_cases hlt : k < ow.length
  ·have HX := am hN
   have HRS := am hRS
   have HS9 := am hs9
   have HT9 := am ht9
   have HFN := am hfn
   have HSK := am hsk
   have HLT := am hlt
   obtain ⟨ad, hA⟩ := hRS.ow.ad (by omega)
   subst hA
   have hcell : wr.cell? (ad.add k) = some (.int .i64 (rd ow k)) := hRS.ow.int_cell k hlt
   have hx := owners_range ok.out.hc s (rd ow k) (by rw [← HOWE.out]; exact rd_mem (by omega) (by omega))
   have hdr : sendL p round s (rd ow k :: ow.drop (k + 1)) nzx sent sends = fin := by rw [← drop_rd ow k hlt]; exact hfi
   obtain ⟨j, hj⟩ : ∃ j : Nat, rd ow k = j := ⟨(rd ow k).toNat, by omega⟩
   rw [hj] at hcell hdr
   have HD := am hdr
   have hjN := am (show j < p.N ∧ j < nzx.length by have := hN12.out; have := hN.hl; omega)
   have KF := am (net_frame p ok.out nb round hr.out.1 hr.out.2 nzx sv cv j hjN.out.2 s hs.out.1 hs.out.2 wr hN)
   have HF4 := am (fun f => frameZ_f4 hN hjN.out.2 s (f := f))
   have HFF := am (fun k => frameZ_fn (p := p) (nb := nb) (round := round) hjN.out.2 s (k := k))
   have HFL := am (frameZ_n (p := p) (round := round) (nz := nzx) (i := j) s)
   have HDD : Aside0 (sendL p round s (↑j :: ow.drop (k + 1)) nzx sent sends = sendL p round s (ow.drop (k + 1)) (frameZ p round nzx j s).2 (match (frameZ p round nzx j s).1 with | some f => sent.set j (textL_ f) | none => sent) (sends ++ [(match (frameZ p round nzx j s).1 with | some f => sent.set j (textL_ f) | none => sent).getD j []])) := ⟨rfl⟩
   unfold FrR at KF
   generalize frameZ p round nzx j s = fz at *
   have y0 := bx.cell ⟨_, hRS.a0⟩
   have y1 := bx.cell ⟨_, hRS.a1⟩
   clear hx hdr hfi hS hN hRS hs9 ht9 hfn hsk hk hj
   go_upto_region 8 with (first
    | (go_at_call 68; refine KF.out.mono ?_; rintro e Wf ⟨⟨f, v, b, rfl, hR, hfz⟩, hN, hKf⟩; obtain ⟨Av, mv, hv, -⟩ := id hR; subst hv; have HR := am hR; have HFZ := am hfz; have HXF := am hN; have KFF := am hKf; clear hR hfz hN hKf y0 y1; unfold frV)
    | fail)
   have FRB := am (blk_new Wf (.cells #[.int .i64 f.f0, .int .i64 f.f1, .int .i64 f.f2, .int .i64 f.f3.f0, .int .i64 f.f3.f1, .slice Av f.f4.length mv] 117))
   have n1 := am (HXF.out.below (b_al Wf (.cells #[.int .i64 f.f0, .int .i64 f.f1, .int .i64 f.f2, .int .i64 f.f3.f0, .int .i64 f.f3.f1, .slice Av f.f4.length mv] 117)))
   have n2 := am ((HRS.out.kp KFF.out (FN.qt HX.out)).below (b_al Wf (.cells #[.int .i64 f.f0, .int .i64 f.f1, .int .i64 f.f2, .int .i64 f.f3.f0, .int .i64 f.f3.f1, .slice Av f.f4.length mv] 117)))
   have n3 := am (HR.out.below (b_al Wf (.cells #[.int .i64 f.f0, .int .i64 f.f1, .int .i64 f.f2, .int .i64 f.f3.f0, .int .i64 f.f3.f1, .slice Av f.f4.length mv] 117)))
   have n4 := am ((hK.out.trans (KFF.out.mono (fun k _ e => HFN.out k e))).then_ (b_al Wf (.cells #[.int .i64 f.f0, .int .i64 f.f1, .int .i64 f.f2, .int .i64 f.f3.f0, .int .i64 f.f3.f1, .slice Av f.f4.length mv] 117)))
   clear HXF HRS HR hK KFF KF HX hcell
   have HX := n1
   have HRS := n2
   have HR := n3
   have KW := n4
   clear n1 n2 n3 n4
   generalize Wf.alloc (.cells #[.int .i64 f.f0, .int .i64 f.f1, .int .i64 f.f2, .int .i64 f.f3.f0, .int .i64 f.f3.f1, .slice Av f.f4.length mv] 117) = W6 at *
   generalize Wf.heap.size = fb at *
   go_upto_if 49 with (fail)
   go_cut [] (fun wc => Aside0 (NB p wc nb round fz.2 sv cv) ∧ Aside0 (∃ sent', RS p s w.heap.size tb xb kb sb sb (some ad) c5 ow wc sent' sends vs ∧ (∀ t ∈ sent', t.length ≤ 900) ∧ sent' = (match fz.1 with | some f => sent.set j (textL_ f) | none => sent)) ∧ Aside0 (Kp (FN nb nz) w wc))
   case first =>
    cases b
    ·have hz : fz.1 = none := by have := HFZ.out; simpa using this
     have HZ := am hz
     clear hz
     go_wp2
     go_meet
     case rel => exact ⟨HX, ⟨sent, HRS.out, HT9.out, by rw [HZ.out]⟩, KW⟩
    ·have hz : fz.1 = some f := by have := HFZ.out; simpa using this
     have HZ := am hz
     have hf4 := am (HF4.out f hz)
     clear hz
     have gg := HX.out.gcells
     have ff := cells6 FRB.out
     have tt := cells4 HRS.out.t
     have y0 := bx.cell ⟨_, HRS.out.a0⟩
     obtain ⟨u0, hu0⟩ : ∃ u0, (sent.map fun t => Value.string (S t)).toArray[j]? = some u0 := ⟨_, Array.getElem?_eq_getElem (show j < ((sent.map fun t => Value.string (S t)).toArray).size from by rw [List.size_toArray, List.length_map, HRS.out.n]; exact hjN.out.1)⟩
     have HU := am hu0
     clear hu0
     have q1 : ((j : Int) < (p.N : Int)) = True := eq_true (by have := hjN.out; omega)
     go_wp2
     have HN := am (below_drew (Below.refl W6.heap.size W6))
     refine startB (n := 11) (F := fun _ => False) (ds := [10]) (by kernel_rfl) rfl (fun hHeld => ?_)
     refine plan_ [.p 0 50, .t 1 51, .p 2 52, .t 3 53, .p 4 54, .p 5 55, .t 6 56, .t 7 57] ?_
     repeat (first | refine jP ?_ | refine jW hHeld ?_ | refine jG ?_)
     refine planE ?_
     refine jO 8 (some 58) (fun K hK => ?_)
     refine kC Tryz.func69 #[p.c.v p.A p.m, .agg #[.int .i64 f.f0, .int .i64 f.f1, .int .i64 f.f2, .int .i64 f.f3.f0, .int .i64 f.f3.f1, .slice Av f.f4.length mv]] ?_
     refine (frame_Text _ ⟨_, _, _, _, _, _, rfl⟩ f Av mv (by have := hf4.out; have := hN12.out; omega) _ (HR.out.below HN.out).C.1 HR.out.C.2).mono ?_
     rintro e W7 ⟨rfl, hb⟩
     replace HN := am (b_tr HN.out hb)
     clear hb
     refine ⟨_, rfl, ?_⟩
     refine hK.out _ _ (Kp.of HN.out) (fun hHeld => ?_)
     clear hK K
     refine jM 58 ?_
     refine plan_ [.p 9 59] ?_
     repeat (first | refine jP ?_ | refine jW hHeld ?_ | refine jG ?_)
     refine planE ?_
     refine jL 10 none (fun K hK => ?_)
     have yx := (blk_cell (HRS.out.below HN.out).x j).trans HU.out
     have yf := blk_frozen (HRS.out.below HN.out).x j
     refine skip_ (w1 := W7.setCell ⟨xb, j, none⟩ (.string (S (textL_ f)))) (by rfl) rfl (by go_simp; try rfl) ?_
     refine hK.out _ _ ?_
     clear hK K
     refine done_ (by kernel_rfl) ?_
     have kx := (Kp.refl (fun k => k = xb) W7).set_ (p := ⟨xb, j, none⟩) (.inl rfl) (.string (S (textL_ f)))
     have n1 := am ((HX.out.below HN.out).other kx (fun k e => by subst e; exact ⟨_, _, (HRS.out.below HN.out).x, by simp [OT]⟩))
     have n2 := am ((HRS.out.below HN.out).put j (textL_ f))
     have n3 := am ((KW.out.then_ HN.out).set_ (p := ⟨xb, j, none⟩) (.inr hxs.out.1) (.string (S (textL_ f))))
     clear kx gg ff tt y0 yx yf q1 HX HRS KW HN
     generalize W7.setCell ⟨xb, j, none⟩ (.string (S (textL_ f))) = W8 at *
     go_wp2
     go_meet
     case rel => exact ⟨n1, ⟨_, n2.out, fun t ht => by
      rcases List.mem_or_eq_of_mem_set ht with h1 | h1
      ·exact HT9.out t h1
      ·rw [h1, text_len]; have := hf4.out; have := hN12.out; omega, by rw [HZ.out]⟩, n3⟩
   case rest =>
    clear HX HRS KW HR FRB HFZ HF4 HT9
    obtain ⟨⟨hX⟩, ⟨sent', hRS, ht9, hse⟩, ⟨hKW⟩⟩ := hcut
    have HX := am hX
    have HRS := am hRS
    have HT9 := am ht9
    have HSE := am hse
    have KW := am hKW
    clear hX hRS ht9 hse hKW
    have hjs := am (show j < sent'.length by rw [HRS.out.n]; exact hjN.out.1)
    obtain ⟨tx, htx⟩ : ∃ tx, sent'.getD j [] = tx := ⟨_, rfl⟩
    have HTX := am htx
    have hcx := (blk_cell HRS.out.x j).trans (show (sent'.map fun t => Value.string (S t)).toArray[j]? = some (.string (S tx)) by rw [List.getElem?_toArray, List.getElem?_map, List.getElem?_eq_getElem hjs.out, ← htx, List.getD_eq_getElem?_getD, List.getElem?_eq_getElem hjs.out]; rfl)
    clear htx
    obtain ⟨A3, c3, hcv⟩ := Kd.R_slice HRS.out.sr
    rw [List.length_map] at hcv
    subst hcv
    have tt := cells4 HRS.out.t
    have ys := bx.cell ⟨_, HRS.out.sb⟩
    have q1 : ((j : Int) < (p.N : Int)) = True := eq_true (by have := hjN.out; omega)
    have hsl := am (show sends.length ≤ 2 by have := HSK.out; have := HLT.out; have := howl.out; omega)
    go_wp2
    have HN := am (below_drew (Below.refl wc.heap.size wc))
    refine startB (n := 9) (F := fun _ => False) (ds := [7, 8]) (by kernel_rfl) rfl (fun hHeld => ?_)
    refine plan_ [.t 0 60, .p 1 61, .t 2 62, .p 3 63, .p 4 64, .t 5 65] ?_
    repeat (first | refine jP ?_ | refine jW hHeld ?_ | refine jG ?_)
    refine planE ?_
    refine jO 6 (some 66) (fun K hK => ?_)
    refine value_ (v := .slice (some ⟨wc.drew.heap.size, 0, none⟩) 1 1) (w1 := wc.drew.alloc (.cells #[.string (S tx)] 9)) (by rfl) rfl (by go_simp; try rfl) ?_
    refine hK.out _ _ ((Kp.of HN.out).then_ (b_al _ _)) (fun hHeld => ?_)
    clear hK K
    refine jM 66 ?_
    refine jL 7 (some 67) (fun K hK => ?_)
    refine Kd.R_append_step Kd.string (w0 := wc.drew) (W := wc.drew) sb (by rfl) (.tmp 60) (.tmp 66) 91 9 (.string ⟨#[]⟩) 16 rfl Tryz.underlying91 info_str9 rfl (by decide) (by omega) _ (sends.map S) (S tx) [.string (S tx)] (fun _ => True) (fun _ => False) rfl rfl rfl (fun _ h => h.elim) (fun _ _ => trivial) (HRS.out.below HN.out).sr (Below.refl _ _) (by have h1 := blk_lt HRS.out.sb; have h2 := HN.out.size; omega) (by have := hsl.out; rw [List.length_map]; omega) ?_
    intro v4 W9 hR4 _ hg4 _
    have HR4 := am hR4
    have HG4 := am hg4
    clear hR4 hg4
    obtain ⟨A4, c4, hv4⟩ := Kd.R_slice HR4.out
    rw [List.length_append, List.length_map, List.length_singleton] at hv4
    subst hv4
    refine hK.out _ _ ?_
    clear hK K
    refine jM 67 ?_
    refine jL 8 none (fun K hK => ?_)
    have hst := (HRS.out.below HN.out).app HG4.out HR4.out
    have HAP := am hst
    have ysb := (Kp.grown_own HG4.out).blk (HRS.out.below HN.out).sb (fun e => by
     obtain ⟨cells, hc2⟩ := Kd.R_typed (HRS.out.below HN.out).sr _ e.symm
     exact ne_of_types (HRS.out.below HN.out).sb hc2 (by decide) rfl)
    have YSB := am ysb
    have y9 := bx.cell ⟨_, ysb⟩
    have yf := blk_frozen ysb 0
    clear ysb hst
    refine skip_ (w1 := W9.setCell ⟨sb, 0, none⟩ (.slice A4 (sends.length + 1) c4)) (by rfl) rfl (by go_simp; try rfl) ?_
    refine hK.out _ _ ?_
    clear hK K
    refine done_ (by kernel_rfl) ?_
    have hbs := am (show ∀ g, (Value.slice A3 sends.length c3).ownBlock = some g → sb ≤ g from fun g hg => R_base (HRS.out.below HN.out).sr g hg)
    have k9 := (Kp.refl (fun k => k = sb) W9).set_ (p := ⟨sb, 0, none⟩) (.inl rfl) (.slice A4 (sends.length + 1) c4)
    have n1 := am (((HX.out.below HN.out).other (Kp.grown_own HG4.out) (fun k e => by
     obtain ⟨cells, hc⟩ := Kd.R_typed (HRS.out.below HN.out).sr k e.symm
     exact ⟨_, _, hc, by simp [OT]⟩)).other k9 (fun k e => by subst e; exact ⟨_, _, YSB.out, by simp [OT]⟩))
    have n3 := am (((KW.out.then_ HN.out).grown HG4.out (fun k e => .inr (Nat.le_trans hxs.out.2.2.2.1 (hbs.out k e)))).set_ (p := ⟨sb, 0, none⟩) (.inr hxs.out.2.2.2.1) (.slice A4 (sends.length + 1) c4))
    have n4 := am (show ∀ t ∈ sends ++ [tx], t.length ≤ 900 from fun t ht => by
     rcases List.mem_append.1 ht with h1 | h1
     ·exact HS9.out t h1
     ·rw [List.mem_singleton.1 h1, ← HTX.out, List.getD_eq_getElem?_getD, List.getElem?_eq_getElem hjs.out]
      exact HT9.out _ (List.getElem_mem hjs.out))
    clear k9 hbs hcx tt ys yf y9 YSB q1 HX HRS KW HN HR4 HG4 HS9
    have HX := n1
    have KW := n3
    have HS9 := n4
    clear n1 n3 n4
    generalize W9.setCell ⟨sb, 0, none⟩ (.slice A4 (sends.length + 1) c4) = W10 at *
    have hi9 := HLT.out
    go_wp2
    go_roundw
    case rel => exact ⟨k + 1, by simp, by omega, ⟨fz.2, sent', sends ++ [tx], _, HX.out, HAP.out, by rw [← HD.out, HDD.out, ← HSE.out, HTX.out], by rw [List.length_append, HSK.out]; rfl, HS9.out, HT9.out, fun k h => HFN.out k (HFF.out k h)⟩, KW⟩
    case measure => simp [intOf]; omega
  ·have hke : k = ow.length := by omega
   have hfi2 : sendL p round s ([] : List Int) nzx sent sends = fin := by rw [← hfi, hke, List.drop_length]
   have HFE := am (show (nzx, sent, sends) = fin from hfi2)
   have HX := am hN
   have HRS := am hRS
   have HS9 := am hs9
   have HT9 := am ht9
   have HFN := am hfn
   have HSK := am (hsk.trans hke)
   have KW := hK
   have HRZ : Aside0 (runZ p round nz s = if ow.length = 0 then (fin.1, ⟨fin.2.1, List.replicate p.N zSd, List.replicate p.N zSd, List.replicate p.N none⟩)
    else (fin.1, ⟨fin.2.1, sidesZ p round s 1 fin.2.2 (statesZ fin.1) (devsZ p round fin.1 (rd ow (ow.length - 1 : Int)).toNat), sidesZ p round s (-1) fin.2.2 (statesZ fin.1) (devsZ p round fin.1 (rd ow 0).toNat), (List.range p.N).map (tookZ p round s ow fin.1 (sidesZ p round s 1 fin.2.2 (statesZ fin.1) (devsZ p round fin.1 (rd ow (ow.length - 1 : Int)).toNat)) (sidesZ p round s (-1) fin.2.2 (statesZ fin.1) (devsZ p round fin.1 (rd ow 0).toNat)))⟩)) := ⟨by unfold runZ; simp only; rw [← HOWE.out, ← HFI.out]⟩
   clear HFI hfi2 hfi hS hN hRS hs9 ht9 hfn hsk hk hlt hK
   have nbt := am (show w.heap.size ≠ tb from fun e => ne_of_types HRS.out.a0 HRS.out.t (by decide) e)
   have ngt := am (show p.g ≠ tb from fun e => ne_of_types HX.out.hg HRS.out.t (by decide) e)
   have hu := Tryz.underlying95
   by_cases hz : ow.length = 0
   ·have HZ := am hz
    have q0 : (((ow.length : Nat) : Int) == 0) = true := by simpa using hz
    clear hz
    have gg := HX.out.gcells
    have y0 := bx.cell ⟨_, HRS.out.a0⟩
    have tt := cells4 HRS.out.t
    have hmk3 : ∀ W : World, (Instr.makeSlice 92 (.int .i64 p.c.n) (.int .i64 p.c.n)).run Tryz.prog W = .ok (.slice (some ⟨W.heap.size, 0, none⟩) p.N p.N) (W.alloc (.cells (sdsV (List.replicate p.N zSd)).toArray 127)) := fun W => by
     rw [← flat_sides]
     exact make_run _ _ [.string ⟨#[]⟩, .string ⟨#[]⟩, .string ⟨#[]⟩, .int .i64 0] (.agg #[.string ⟨#[]⟩, .string ⟨#[]⟩, .string ⟨#[]⟩, .int .i64 0]) 56 Tryz.underlying92 info_side9 rfl (by simp) _ _ hN12.out.2.1 (by have := hN12.out; omega) (by omega) W
    go_wp2
    have HN := am (Kp.of (F := fun k => k = tb) (below_drew (Below.refl wr.heap.size wr)))
    have HTT := am (show wr.drew.heap[tb]? = some (.cells #[.slice (some ⟨xb, 0, none⟩) p.N p.N, .slice none 0 0, .slice none 0 0, .slice (some ⟨kb, 0, none⟩) p.N p.N] 95 (0, 0)) from HRS.out.t)
    refine startB (n := 16) (F := fun k => k = tb) (ds := [15]) (by kernel_rfl) rfl (fun hHeld => ?_)
    refine plan_ [.t 0 72, .p 1 73, .p 2 74, .p 3 75, .t 4 76, .t 6 78, .p 7 79, .p 8 80, .p 9 81, .t 10 82] ?_
    repeat (first | refine jP ?_ | refine jW (hF := by first | exact nbt.out | exact ngt.out) hHeld ?_ | refine jG ?_)
    refine planE ?_
    refine join_ (1) (#[true, true, true, true, true, true, true, true, true, true, true, true, true, true, true, false]) (fun (s_ : Nat × Nat) => [(77, .slice (some ⟨s_.1, 0, none⟩) p.N p.N), (83, .slice (some ⟨s_.2, 0, none⟩) p.N p.N), (84, .pointer (some ⟨tb, 1, none⟩)), (85, .pointer (some ⟨tb, 2, none⟩))]) (fun (s_ : Nat × Nat) (w' : World) => (Aside0 (wr.heap.size ≤ s_.1) ∧ Aside0 (w'.heap[s_.1]? = some (.cells (sdsV (List.replicate p.N zSd)).toArray 127 (0, 0)))) ∧ (Aside0 (wr.heap.size ≤ s_.2) ∧ Aside0 (w'.heap[s_.2]? = some (.cells (sdsV (List.replicate p.N zSd)).toArray 127 (0, 0)))) ∧ Aside0 (w'.heap[tb]? = some (.cells #[.slice (some ⟨xb, 0, none⟩) p.N p.N, .slice (some ⟨s_.1, 0, none⟩) p.N p.N, .slice none 0 0, .slice (some ⟨kb, 0, none⟩) p.N p.N] 95 (0, 0))) ∧ Aside0 (Kp (fun k => k = tb) wr w')) ?_ (fun hJ => ?_)
    rotate_left
    refine twoB (i := 5) (j := 11) rfl rfl rfl rfl (by kernel_rfl) (by decide) (by decide) (fun K hK => ?_) (fun K hK => ?_)
    ·refine make_ev p.N (.cells (sdsV (List.replicate p.N zSd)).toArray 127) (by rfl) rfl (fun w' => by go_simp; try exact hmk3 w') (fun ub Wn hxe hxb hb => ?_)
     have HSUz := am (Nat.le_trans HN.out.size hxe)
     have n1_ := am (HN.out.then_ hb)
     first | (replace HSU := am (blk_below HSU.out hb)) | skip
     first | (replace HSD := am (blk_below HSD.out hb)) | skip
     first | (replace HTT := am (blk_below HTT.out hb)) | skip
     clear HN hb
     have HN := n1_
     clear n1_
     have HSU := am hxb
     clear hxb hxe
     refine hK.out _ _ (HN.out) (fun hHeld => ?_)
     clear hK K
     refine jM 77 ?_
     refine plan_ [.p 12 84] ?_
     repeat (first | refine jP ?_ | refine jW (hF := by first | exact nbt.out | exact ngt.out) hHeld ?_ | refine jG ?_)
     refine planE ?_
     refine twoB (i := 11) (j := 13) rfl rfl rfl rfl (by kernel_rfl) (by decide) (by decide) (fun K hK => ?_) (fun K hK => ?_)
     ·refine make_ev p.N (.cells (sdsV (List.replicate p.N zSd)).toArray 127) (by rfl) rfl (fun w' => by go_simp; try exact hmk3 w') (fun db Wn hxe hxb hb => ?_)
      have HSDz := am (Nat.le_trans HN.out.size hxe)
      have n1_ := am (HN.out.then_ hb)
      first | (replace HSU := am (blk_below HSU.out hb)) | skip
      first | (replace HSD := am (blk_below HSD.out hb)) | skip
      first | (replace HTT := am (blk_below HTT.out hb)) | skip
      clear HN hb
      have HN := n1_
      clear n1_
      have HSD := am hxb
      clear hxb hxe
      refine hK.out _ _ (HN.out) (fun hHeld => ?_)
      clear hK K
      refine jM 83 ?_
      refine jO 13 none (fun K hK => ?_)
      have y9 := (blk_cell HTT.out 1).trans rfl
      have yf := blk_frozen HTT.out 1
      refine skip_ (w1 := Wn.setCell ⟨tb, 1, none⟩ (.slice (some ⟨ub, 0, none⟩) p.N p.N)) (by rfl) rfl (by go_simp; try rfl) ?_
      have kx := (Kp.refl (fun k => k = tb) Wn).set_ (p := ⟨tb, 1, none⟩) (.inl rfl) (.slice (some ⟨ub, 0, none⟩) p.N p.N)
      have n1_ := am (HN.out.trans kx)
      have n2_ := am (kx.blk HSU.out (fun e => ne_of_types HSU.out HTT.out (by decide) e))
      first | (replace HSD := am (kx.blk HSD.out (fun e => ne_of_types HSD.out HTT.out (by decide) e))) | skip
      have n4_ := am (blk_put HTT.out 1 (.slice (some ⟨ub, 0, none⟩) p.N p.N) (cs' := #[.slice (some ⟨xb, 0, none⟩) p.N p.N, .slice (some ⟨ub, 0, none⟩) p.N p.N, .slice none 0 0, .slice (some ⟨kb, 0, none⟩) p.N p.N]) (by rfl))
      clear HN HSU HTT kx y9 yf
      have HN := n1_
      have HSU := n2_
      have HTT := n4_
      clear n1_ n2_ n4_
      generalize Wn.setCell ⟨tb, 1, none⟩ (.slice (some ⟨ub, 0, none⟩) p.N p.N) = Wn at *
      refine hK.out _ _ (HN.out) (fun hHeld => ?_)
      clear hK K
      refine plan_ [.p 14 85] ?_
      repeat (first | refine jP ?_ | refine jW (hF := by first | exact nbt.out | exact ngt.out) hHeld ?_ | refine jG ?_)
      refine planE ?_
      exact goJ (by kernel_rfl) (by simp only [putAll, s0, s1, s2, s3]) (hJ (ub, db) _ ⟨⟨HSUz, HSU⟩, ⟨HSDz, HSD⟩, HTT, HN⟩)
     ·have y9 := (blk_cell HTT.out 1).trans rfl
      have yf := blk_frozen HTT.out 1
      refine skip_ (w1 := Wn.setCell ⟨tb, 1, none⟩ (.slice (some ⟨ub, 0, none⟩) p.N p.N)) (by rfl) rfl (by go_simp; try rfl) ?_
      have kx := (Kp.refl (fun k => k = tb) Wn).set_ (p := ⟨tb, 1, none⟩) (.inl rfl) (.slice (some ⟨ub, 0, none⟩) p.N p.N)
      have n1_ := am (HN.out.trans kx)
      have n2_ := am (kx.blk HSU.out (fun e => ne_of_types HSU.out HTT.out (by decide) e))
      first | (replace HSD := am (kx.blk HSD.out (fun e => ne_of_types HSD.out HTT.out (by decide) e))) | skip
      have n4_ := am (blk_put HTT.out 1 (.slice (some ⟨ub, 0, none⟩) p.N p.N) (cs' := #[.slice (some ⟨xb, 0, none⟩) p.N p.N, .slice (some ⟨ub, 0, none⟩) p.N p.N, .slice none 0 0, .slice (some ⟨kb, 0, none⟩) p.N p.N]) (by rfl))
      clear HN HSU HTT kx y9 yf
      have HN := n1_
      have HSU := n2_
      have HTT := n4_
      clear n1_ n2_ n4_
      generalize Wn.setCell ⟨tb, 1, none⟩ (.slice (some ⟨ub, 0, none⟩) p.N p.N) = Wn at *
      refine hK.out _ _ (HN.out) (fun hHeld => ?_)
      clear hK K
      refine jO 11 (some 83) (fun K hK => ?_)
      refine make_ev p.N (.cells (sdsV (List.replicate p.N zSd)).toArray 127) (by rfl) rfl (fun w' => by go_simp; try exact hmk3 w') (fun db Wn hxe hxb hb => ?_)
      have HSDz := am (Nat.le_trans HN.out.size hxe)
      have n1_ := am (HN.out.then_ hb)
      first | (replace HSU := am (blk_below HSU.out hb)) | skip
      first | (replace HSD := am (blk_below HSD.out hb)) | skip
      first | (replace HTT := am (blk_below HTT.out hb)) | skip
      clear HN hb
      have HN := n1_
      clear n1_
      have HSD := am hxb
      clear hxb hxe
      refine hK.out _ _ (HN.out) (fun hHeld => ?_)
      clear hK K
      refine jM 83 ?_
      refine plan_ [.p 14 85] ?_
      repeat (first | refine jP ?_ | refine jW (hF := by first | exact nbt.out | exact ngt.out) hHeld ?_ | refine jG ?_)
      refine planE ?_
      exact goJ (by kernel_rfl) (by simp only [putAll, s0, s1, s2, s3]) (hJ (ub, db) _ ⟨⟨HSUz, HSU⟩, ⟨HSDz, HSD⟩, HTT, HN⟩)
    ·refine make_ev p.N (.cells (sdsV (List.replicate p.N zSd)).toArray 127) (by rfl) rfl (fun w' => by go_simp; try exact hmk3 w') (fun db Wn hxe hxb hb => ?_)
     have HSDz := am (Nat.le_trans HN.out.size hxe)
     have n1_ := am (HN.out.then_ hb)
     first | (replace HSU := am (blk_below HSU.out hb)) | skip
     first | (replace HSD := am (blk_below HSD.out hb)) | skip
     first | (replace HTT := am (blk_below HTT.out hb)) | skip
     clear HN hb
     have HN := n1_
     clear n1_
     have HSD := am hxb
     clear hxb hxe
     refine hK.out _ _ (HN.out) (fun hHeld => ?_)
     clear hK K
     refine jM 83 ?_
     refine jO 5 (some 77) (fun K hK => ?_)
     refine make_ev p.N (.cells (sdsV (List.replicate p.N zSd)).toArray 127) (by rfl) rfl (fun w' => by go_simp; try exact hmk3 w') (fun ub Wn hxe hxb hb => ?_)
     have HSUz := am (Nat.le_trans HN.out.size hxe)
     have n1_ := am (HN.out.then_ hb)
     first | (replace HSU := am (blk_below HSU.out hb)) | skip
     first | (replace HSD := am (blk_below HSD.out hb)) | skip
     first | (replace HTT := am (blk_below HTT.out hb)) | skip
     clear HN hb
     have HN := n1_
     clear n1_
     have HSU := am hxb
     clear hxb hxe
     refine hK.out _ _ (HN.out) (fun hHeld => ?_)
     clear hK K
     refine jM 77 ?_
     refine plan_ [.p 12 84] ?_
     repeat (first | refine jP ?_ | refine jW (hF := by first | exact nbt.out | exact ngt.out) hHeld ?_ | refine jG ?_)
     refine planE ?_
     refine jO 13 none (fun K hK => ?_)
     have y9 := (blk_cell HTT.out 1).trans rfl
     have yf := blk_frozen HTT.out 1
     refine skip_ (w1 := Wn.setCell ⟨tb, 1, none⟩ (.slice (some ⟨ub, 0, none⟩) p.N p.N)) (by rfl) rfl (by go_simp; try rfl) ?_
     have kx := (Kp.refl (fun k => k = tb) Wn).set_ (p := ⟨tb, 1, none⟩) (.inl rfl) (.slice (some ⟨ub, 0, none⟩) p.N p.N)
     have n1_ := am (HN.out.trans kx)
     have n2_ := am (kx.blk HSU.out (fun e => ne_of_types HSU.out HTT.out (by decide) e))
     first | (replace HSD := am (kx.blk HSD.out (fun e => ne_of_types HSD.out HTT.out (by decide) e))) | skip
     have n4_ := am (blk_put HTT.out 1 (.slice (some ⟨ub, 0, none⟩) p.N p.N) (cs' := #[.slice (some ⟨xb, 0, none⟩) p.N p.N, .slice (some ⟨ub, 0, none⟩) p.N p.N, .slice none 0 0, .slice (some ⟨kb, 0, none⟩) p.N p.N]) (by rfl))
     clear HN HSU HTT kx y9 yf
     have HN := n1_
     have HSU := n2_
     have HTT := n4_
     clear n1_ n2_ n4_
     generalize Wn.setCell ⟨tb, 1, none⟩ (.slice (some ⟨ub, 0, none⟩) p.N p.N) = Wn at *
     refine hK.out _ _ (HN.out) (fun hHeld => ?_)
     clear hK K
     refine plan_ [.p 14 85] ?_
     repeat (first | refine jP ?_ | refine jW (hF := by first | exact nbt.out | exact ngt.out) hHeld ?_ | refine jG ?_)
     refine planE ?_
     exact goJ (by kernel_rfl) (by simp only [putAll, s0, s1, s2, s3]) (hJ (ub, db) _ ⟨⟨HSUz, HSU⟩, ⟨HSDz, HSD⟩, HTT, HN⟩)
    rintro ⟨ub, db⟩ W2 ⟨⟨HSUz, HSU⟩, ⟨HSDz, HSD⟩, HTT, HN⟩
    have hHeld := HN.out
    simp only
    refine norm_ (a' := _) (by simp only [putAll, s0, s1, s2, s3]; rfl) ?_
    refine jL 15 none (fun K hK => ?_)
    have y9 := (blk_cell HTT.out 2).trans rfl
    have yf := blk_frozen HTT.out 2
    refine skip_ (w1 := W2.setCell ⟨tb, 2, none⟩ (.slice (some ⟨db, 0, none⟩) p.N p.N)) (by rfl) rfl (by go_simp; try rfl) ?_
    refine hK.out _ _ ?_
    clear hK K
    refine done_ (by kernel_rfl) ?_
    have kx := (Kp.refl (fun k => k = tb) W2).set_ (p := ⟨tb, 2, none⟩) (.inl rfl) (.slice (some ⟨db, 0, none⟩) p.N p.N)
    have kN := HN.out.trans kx
    have n1 := am (blk_put HTT.out 2 (.slice (some ⟨db, 0, none⟩) p.N p.N) (cs' := #[.slice (some ⟨xb, 0, none⟩) p.N p.N, .slice (some ⟨ub, 0, none⟩) p.N p.N, .slice (some ⟨db, 0, none⟩) p.N p.N, .slice (some ⟨kb, 0, none⟩) p.N p.N]) (by rfl))
    have n2 := am (HX.out.other kN (fun k e => by subst e; exact ⟨_, _, HRS.out.t, by simp [OT]⟩))
    have n3 := am (kN.blk HRS.out.x (fun e => ne_of_types HRS.out.x HRS.out.t (by decide) e))
    have n4 := am (kN.blk HRS.out.k (fun e => ne_of_types HRS.out.k HRS.out.t (by decide) e))
    have n5 := am (kx.blk HSU.out (fun e => ne_of_types HSU.out HTT.out (by decide) e))
    have n6 := am (kx.blk HSD.out (fun e => ne_of_types HSD.out HTT.out (by decide) e))
    have n7 := am (kN.blk HRS.out.a2 (fun e => by have := hxs.out.2.2.2.2; omega))
    have n8 := am (KW.out.trans' kN hxs.out.2.2.1)
    have hn := am HRS.out.n
    clear kx kN y9 yf gg y0 tt HX HRS HSU HSD HTT HN KW hHeld hmk3
    have HT := n1
    have HX := n2
    have HSX := n3
    have HSK := n4
    have HSU := n5
    have HSD := n6
    have HRB := n7
    have KW := n8
    clear n1 n2 n3 n4 n5 n6 n7 n8
    generalize W2.setCell ⟨tb, 2, none⟩ (.slice (some ⟨db, 0, none⟩) p.N p.N) = W7 at *
    have tt := cells4 HT.out
    go_wp2_with (((with_reducible refine gate_ (.store 95 (.tmp 4) (.tmp 86)) rfl ?_); refine store_part rfl 95 (.tmp 4) (.tmp 86) rfl ((w.heap.size + 1 + 1)) 0 95 #[.slice (some ⟨xb, 0, none⟩) p.N p.N, .slice (some ⟨ub, 0, none⟩) p.N p.N, .slice (some ⟨db, 0, none⟩) p.N p.N, .slice (some ⟨kb, 0, none⟩) p.N p.N] [.slice none 0 0, .slice none 0 0, .slice none 0 0, .slice none 0 0] rfl rfl HRB.out (by simp) info_slot4 (by simp [Value.oneCell']) ?_; intro W8 HG_ KG_; have HG := am HG_; have KG := am KG_; clear HG_ KG_))
    refine bodyPost_ret (v := .agg #[.slice (some ⟨xb, 0, none⟩) p.N p.N, .slice (some ⟨ub, 0, none⟩) p.N p.N, .slice (some ⟨db, 0, none⟩) p.N p.N, .slice (some ⟨kb, 0, none⟩) p.N p.N]) (results_cell_row Tryz.results44 _ W8 _ _ _ _ _ rfl HG.out hu rfl info_slot4) rfl ⟨⟨_, _, _, _, rfl, ?_⟩, ?_, KW.out.trans' KG.out (by omega)⟩
    ·rw [HRZ.out, if_pos HZ.out, ← HFE.out]
     have hx8 := KG.out.blk HSX.out (fun e => ne_of_types HSX.out HRB.out (by decide) e)
     have hk8 := KG.out.blk HSK.out (fun e => ne_of_types HSK.out HRB.out (by decide) e)
     have hu8 := KG.out.blk HSU.out (fun e => ne_of_types HSU.out HRB.out (by decide) e)
     have hd8 := KG.out.blk HSD.out (fun e => ne_of_types HSD.out HRB.out (by decide) e)
     have h12 := hN12.out
     have hn9 := hn.out
     exact ⟨by have := strs_R hx8 (by omega); rw [hn9] at this; exact this, hn9, by have := RdT.sides hu8 (by simp; omega); simpa using this, by simp, by have := RdT.sides hd8 (by simp; omega); simpa using this, by simp, ⟨kb, rfl, TkR.nils hk8⟩⟩
    ·rw [HRZ.out, if_pos HZ.out, ← HFE.out]
     exact HX.out.other KG.out (fun k e => by subst e; exact ⟨_, _, HRB.out, by simp [OT]⟩)
   ·have HZ := am hz
    have q0 : (((ow.length : Nat) : Int) == 0) = false := by simpa using hz
    obtain ⟨L, hL⟩ : ∃ L, ow.length = L + 1 := ⟨ow.length - 1, by omega⟩
    have HL := am hL
    have hmem : ∀ i : Nat, i < ow.length → ∃ o : Nat, rd ow i = o ∧ o < p.N := fun i hi => by
     have hx := owners_range ok.out.hc s (rd ow i) (by rw [← HOWE.out]; exact rd_mem (by omega) (by omega))
     have := hN12.out
     exact ⟨(rd ow i).toNat, by omega, by omega⟩
    obtain ⟨o1, he1, ho1⟩ := hmem L (by omega)
    obtain ⟨o2, he2, ho2⟩ := hmem 0 (by omega)
    have HE1 := am he1
    have HE2 := am he2
    have ho1 := am ho1
    have ho2 := am ho2
    obtain ⟨st, hst⟩ : ∃ st, st = statesZ nzx := ⟨_, rfl⟩
    have HST := am hst
    have hstl := am (show st.length = p.N by rw [hst]; unfold statesZ; rw [List.length_map]; exact HX.out.hl)
    have KE := am (each_states p ok.out nb round nzx sv cv wr HX.out st hstl.out w.heap.size (fun i W hi hB => by
     rw [hst, rd_states (by rw [HX.out.hl]; exact hi)]
     exact run_states p ok.out nb round nzx sv cv W (HX.out.below hB) w.heap.size (bx.below ⟨_, HRS.out.a0⟩ hB) i hi))
    obtain ⟨A3, c3, hcv⟩ := Kd.R_slice HRS.out.sr
    rw [List.length_map] at hcv
    subst hcv
    have hsn : RdT Kd.string 9 wr (.slice A3 sends.length c3) (sends.map S) := RdT.of_R HRS.out.sr
    have KS0 := am (fun (W : World) (hB : Below wr.heap.size wr W) (gb : Nat) (As : Option Addr) (ms : Nat) (h3 : bx W gb (.slice As st.length ms)) (hst : RdT (Kd.int .i64) 3 W (.slice As st.length ms) st) (W' : World) (hB' : Below W.heap.size W W') (dir : Int) (hd : dir = 1 ∨ dir = -1) (o : Nat) (ho : o < p.N) =>
     run_side p ok.out nb round hr.out.1 hr.out.2 nzx sv cv W' ((HX.out.below hB).below hB') w.heap.size (w.heap.size + 1) sb gb o ho s dir hs.out.1 hs.out.2 hd sends A3 c3 st hstl.out As ms (by rw [HSK.out, HOWE.out]) (by rw [← HOWE.out]; exact HZ.out) HS9.out
      ((bx.below ⟨_, HRS.out.a0⟩ hB).below hB') ((bx.below ⟨_, HRS.out.a1⟩ hB).below hB') ((bx.below ⟨_, HRS.out.sb⟩ hB).below hB') (h3.below hB') ((hsn.below hB).below hB') (hst.below hB'))
    clear hst hsn hmem he1 he2 hz hL
    have y0 := bx.cell ⟨_, HRS.out.a0⟩
    go_upto_region 16 with (go_at_call 70; refine KE.out.mono ?_; rintro e W6 ⟨v, rfl, hR, hb⟩; obtain ⟨As, ms, hv, -⟩ := id hR; subst hv; have HRE := am hR; have HBE := am hb; clear hR hb y0)
    have bW := b_al W6 (.cells #[.slice As st.length ms] 22)
    have hbx : bx (W6.alloc (.cells #[.slice As st.length ms] 22)) W6.heap.size (.slice As st.length ms) := ⟨_, blk_new _ _⟩
    have HBB := am (b_tr HBE.out bW)
    have KS := am (KS0.out _ HBB.out _ As ms hbx (HRE.out.below bW))
    have n1 := am (HX.out.below HBB.out)
    have n2 := am (HRS.out.below HBB.out)
    have n3 := am (KW.out.then_ HBB.out)
    clear bW hbx HBE HBB KS0 KE HX HRS KW HRE
    have HX := n1
    have HRS := n2
    have KW := n3
    clear n1 n2 n3
    generalize W6.alloc (.cells #[.slice As st.length ms] 22) = W7 at *
    generalize W6.heap.size = gb at *
    obtain ⟨up, hup⟩ : ∃ u, u = sidesZ p round s 1 sends st (devsZ p round nzx o1) := ⟨_, rfl⟩
    obtain ⟨dn, hdn⟩ : ∃ u, u = sidesZ p round s (-1) sends st (devsZ p round nzx o2) := ⟨_, rfl⟩
    have HUP := am hup
    have HDN := am hdn
    have hlU := am (show up.length = p.N from hup ▸ sidesZ_len)
    have hlD := am (show dn.length = p.N from hdn ▸ sidesZ_len)
    have hkU := am (show SdOK up from hup ▸ sidesZ_ok ok.out hr.out.1 hr.out.2 HS9.out)
    have hkD := am (show SdOK dn from hdn ▸ sidesZ_ok ok.out hr.out.1 hr.out.2 HS9.out)
    have KSU := am (fun W' hB' => by have h := KS.out W' hB' 1 (.inl rfl) o1 ho1.out; rw [← hup] at h; exact h)
    have KSD := am (fun W' hB' => by have h := KS.out W' hB' (-1) (.inr rfl) o2 ho2.out; rw [← hdn] at h; exact h)
    clear hup hdn KS
    have hw : wrap64 ((ow.length : Int) - 1) = (L : Int) := by have := HL.out; have := howl.out; rw [w64_q _ (by omega) (by omega)]; omega
    have q1 : ((L : Int) < (ow.length : Int)) = True := eq_true (by have := HL.out; omega)
    have q2 : ((0 : Int) < (ow.length : Int)) = True := eq_true (by have := HL.out; omega)
    have q3 : (0 < ow.length) = True := eq_true (by have := HL.out; omega)
    have q4 : (ow = []) = False := eq_false (fun e => by have := HL.out; rw [e] at this; simp at this)
    obtain ⟨ad, hA⟩ := HRS.out.ow.ad (by have := HL.out; omega)
    subst hA
    have z1 : W7.cell? (ad.add L) = some (.int .i64 o1) := by rw [← HE1.out]; exact HRS.out.ow.int_cell L (by have := HL.out; omega)
    have z2 : W7.cell? (ad.add 0) = some (.int .i64 o2) := by rw [← HE2.out]; exact HRS.out.ow.int_cell 0 (by have := HL.out; omega)
    have e0 : ad.add 0 = ad := by
     unfold Addr.add
     split <;> simp_all
    have z3 : W7.cell? ad = some (.int .i64 o2) := by rw [← z2, e0]
    clear e0
    have HTT := am HRS.out.t
    have HN := am (below_drew (Below.refl W7.heap.size W7))
    go_upto_region 17 with (fail)
    refine startB (n := 17) (F := fun _ => False) (ds := [14, 16]) (by kernel_rfl) rfl (fun hHeld => ?_)
    refine plan_ [.p 0 91, .p 1 92, .p 2 93, .p 3 94, .p 4 95, .p 5 96, .t 6 97, .p 8 99, .p 9 100, .p 10 101, .t 11 102] ?_
    repeat (first | refine jP ?_ | refine jW hHeld ?_ | refine jG ?_)
    refine planE ?_
    refine jO 7 (some 98) (fun K hK => ?_)
    refine call_ 72 #[.int .i64 1, .int .i64 o1, .pointer (some ⟨w.heap.size, 0, none⟩), .pointer (some ⟨w.heap.size + 1, 0, none⟩), .pointer (some ⟨sb, 0, none⟩), .pointer (some ⟨gb, 0, none⟩)] (by rfl) rfl (by go_simp; try rfl) ?_
    refine (KSU.out _ HN.out).mono ?_
    rintro e Wn ⟨vU, rfl, hR, hb⟩
    obtain ⟨AU, mU, hv, -⟩ := id hR
    rw [List.length_map, hlU.out] at hv
    subst hv
    first | (replace HRU := am (HRU.out.below hb)) | skip
    have HRU := am hR
    replace HN := am (b_tr HN.out hb)
    clear hb hR
    refine ⟨_, rfl, ?_⟩
    refine hK.out _ _ (Kp.of HN.out) (fun hHeld => ?_)
    clear hK K
    refine jM 98 ?_
    refine plan_ [.p 13 104] ?_
    repeat (first | refine jP ?_ | refine jW hHeld ?_ | refine jG ?_)
    refine planE ?_
    refine jO 12 (some 103) (fun K hK => ?_)
    refine call_ 72 #[.int .i64 (-1), .int .i64 o2, .pointer (some ⟨w.heap.size, 0, none⟩), .pointer (some ⟨w.heap.size + 1, 0, none⟩), .pointer (some ⟨sb, 0, none⟩), .pointer (some ⟨gb, 0, none⟩)] (by rfl) rfl (by go_simp; try rfl) ?_
    refine (KSD.out _ HN.out).mono ?_
    rintro e Wn ⟨vD, rfl, hR, hb⟩
    obtain ⟨AD, mD, hv, -⟩ := id hR
    rw [List.length_map, hlD.out] at hv
    subst hv
    first | (replace HRU := am (HRU.out.below hb)) | skip
    have HRD := am hR
    replace HN := am (b_tr HN.out hb)
    clear hb hR
    refine ⟨_, rfl, ?_⟩
    refine hK.out _ _ (Kp.of HN.out) (fun hHeld => ?_)
    clear hK K
    refine jM 103 ?_
    refine jL 14 none (fun K hK => ?_)
    have HT1 := am (blk_below HTT.out HN.out)
    have y9 := (blk_cell HT1.out 1).trans rfl
    have yf := blk_frozen HT1.out 1
    refine skip_ (w1 := Wn.setCell ⟨tb, 1, none⟩ (.slice AU p.N mU)) (by rfl) rfl (by go_simp; try rfl) ?_
    refine hK.out _ _ ?_
    clear hK K
    refine plan_ [.p 15 105] ?_
    repeat (first | refine jP ?_ | refine jW hHeld ?_ | refine jG ?_)
    refine planE ?_
    refine jL 16 none (fun K hK => ?_)
    have HT2 := am (blk_put HT1.out 1 (.slice AU p.N mU) (cs' := #[.slice (some ⟨xb, 0, none⟩) p.N p.N, .slice AU p.N mU, .slice none 0 0, .slice (some ⟨kb, 0, none⟩) p.N p.N]) (by rfl))
    have kx1 := (Kp.refl (fun k => k = tb) Wn).set_ (p := ⟨tb, 1, none⟩) (.inl rfl) (.slice AU p.N mU)
    generalize Wn.setCell ⟨tb, 1, none⟩ (.slice AU p.N mU) = Wm at *
    clear y9 yf
    have y9 := (blk_cell HT2.out 2).trans rfl
    have yf := blk_frozen HT2.out 2
    refine skip_ (w1 := Wm.setCell ⟨tb, 2, none⟩ (.slice AD p.N mD)) (by rfl) rfl (by go_simp; try rfl) ?_
    refine hK.out _ _ ?_
    clear hK K
    refine done_ (by kernel_rfl) ?_
    have kx2 := (Kp.refl (fun k => k = tb) Wm).set_ (p := ⟨tb, 2, none⟩) (.inl rfl) (.slice AD p.N mD)
    have kN := (Kp.of (F := fun k => k = tb) HN.out).trans (kx1.trans kx2)
    have n1 := am (blk_put HT2.out 2 (.slice AD p.N mD) (cs' := #[.slice (some ⟨xb, 0, none⟩) p.N p.N, .slice AU p.N mU, .slice AD p.N mD, .slice (some ⟨kb, 0, none⟩) p.N p.N]) (by rfl))
    have n2 := am (HX.out.other kN (fun k e => by subst e; exact ⟨_, _, HRS.out.t, by simp [OT]⟩))
    have n3 := am (kN.blk HRS.out.x (fun e => ne_of_types HRS.out.x HRS.out.t (by decide) e))
    have n4 := am (kN.blk HRS.out.k (fun e => ne_of_types HRS.out.k HRS.out.t (by decide) e))
    have n5 := am (HRU.out.kp plain_side (kx1.trans kx2) (fun k cells e hc => by subst e; exact ne_of_types hc HT1.out (by decide) rfl))
    have n6 := am (HRD.out.kp plain_side (kx1.trans kx2) (fun k cells e hc => by subst e; exact ne_of_types hc HT1.out (by decide) rfl))
    have n7 := am (kN.blk HRS.out.a2 (fun e => by have := hxs.out.2.2.2.2; omega))
    have n8 := am (KW.out.trans' kN hxs.out.2.2.1)
    have m0 := am (kN.blk HRS.out.a0 (fun e => ne_of_types HRS.out.a0 HRS.out.t (by decide) e))
    have m1 := am (kN.blk HRS.out.a1 (fun e => ne_of_types HRS.out.a1 HRS.out.t (by decide) e))
    have m2 := am (HRS.out.ow.kp plain_int kN (fun k cells e hc => by subst e; exact ne_of_types hc HRS.out.t (by decide) rfl))
    have hn := am HRS.out.n
    clear kx1 kx2 kN y9 yf z1 z2 z3 hw q1 q2 q3 q4 q0 HX HRS HRU HRD HTT HT1 HT2 HN KW hHeld KSU KSD nbt ngt
    have HT := n1
    have HX := n2
    have HSX := n3
    have HSK := n4
    have HRU := n5
    have HRD := n6
    have HRB := n7
    have KW := n8
    clear n1 n2 n3 n4 n5 n6 n7 n8
    generalize Wm.setCell ⟨tb, 2, none⟩ (.slice AD p.N mD) = W9 at *
    obtain ⟨T, hT⟩ : ∃ T, T = tookZ p round s ow nzx up dn := ⟨_, rfl⟩
    have HTZ := am hT
    clear hT
    have gg := HX.out.gcells
    have y0 := bx.cell ⟨_, m0.out⟩
    go_wp2
    clear gg y0
    go_loopw [111] (fun v w' => ∃ i : Nat, v = .int .i64 i ∧ i ≤ p.N ∧ Aside0 (TkR w' p.N kb (fillT T i p.N)) ∧ Aside0 (Kp (fun k => k = kb) W9 w')) (fun v _ => p.N - (intOf v).toNat)
    case atStart => exact ⟨0, rfl, Nat.zero_le _, ⟨by rw [fillT_zero]; exact TkR.nils HSK.out⟩, ⟨Kp.refl _ _⟩⟩
    case round =>
     obtain ⟨i, rfl, hi, hTk, hK9⟩ := hrel
     have hF9 : ∀ k, k = kb → ∃ cells T, W9.heap[k]? = some (.cells cells T (0, 0)) ∧ OT T := fun k e => by subst e; exact ⟨_, _, HSK.out, by simp [OT]⟩
     have n1 := am (HX.out.other hK9.out hF9)
     have n2 := am (hK9.out.blk HT.out (fun e => ne_of_types HT.out HSK.out (by decide) e))
     have n3 := am (HRU.out.kp plain_side hK9.out (fun k cells e hc => by subst e; exact ne_of_types hc HSK.out (by decide) rfl))
     have n4 := am (HRD.out.kp plain_side hK9.out (fun k cells e hc => by subst e; exact ne_of_types hc HSK.out (by decide) rfl))
     have n5 := am (hK9.out.blk HRB.out (fun e => ne_of_types HRB.out HSK.out (by decide) e))
     have n6 := am (hK9.out.blk m0.out (fun e => ne_of_types m0.out HSK.out (by decide) e))
     have n7 := am (hK9.out.blk m1.out (fun e => ne_of_types m1.out HSK.out (by decide) e))
     have n8 := am (m2.out.kp plain_int hK9.out (fun k cells e hc => by subst e; exact ne_of_types hc HSK.out (by decide) rfl))
     have n9 := am (hK9.out.blk HSX.out (fun e => ne_of_types HSX.out HSK.out (by decide) e))
     clear hF9
     by_cases hlt : i < p.N
     ·have hlt9 := am hlt
      have hNp := am (show p.N ≤ 12 from hN12.out.1)
      obtain ⟨x, y, hz⟩ : ∃ x y, gz nzx i = (x, y) := ⟨_, _, rfl⟩
      have HTI : Aside0 (T i = if x.st = 0 ∨ (i : Int) ∈ ow then none else pickL p.c round s (up.getD i zSd).d (up.getD i zSd).o (dn.getD i zSd).d (dn.getD i zSd).o (up.getD i zSd).far (dn.getD i zSd).far) := ⟨by rw [HTZ.out]; unfold tookZ; rw [hz]⟩
      have gg := n1.out.gcells
      have nn := n1.out.ncells i (by rw [n1.out.hl]; exact hlt)
      rw [hz] at nn
      simp only at nn
      have y0 := bx.cell ⟨_, n6.out⟩
      have h12 := hNp.out
      clear hz hi
      cases hst : (x.st == 0)
      ·have HST0 := am (show ¬ x.st = 0 by simpa using hst)
       have KC := am (fun W hW => contains_calls (some ad) c5 ow (i : Int) (by have := howl.out; omega) W hW)
       obtain ⟨bo, hbo⟩ : ∃ bo, bo = decide ((i : Int) ∈ ow) := ⟨_, rfl⟩
       have HBO := am hbo
       rw [← hbo] at KC
       clear hbo
       go_upto_if 127 with (go_at_call 76; refine (KC.out _ n8.out.C.1 n8.out.C.2).mono ?_; rintro e Wc ⟨rfl, hd⟩; have HBc := am hd.below; clear hd gg nn y0)
       cases bo
       ·have hsu := hkU.out.at (i := i) (by rw [hlU.out]; exact hlt9.out)
        have hsd := hkD.out.at (i := i) (by rw [hlD.out]; exact hlt9.out)
        obtain ⟨aU, hAU, u0, u1, u2, u3⟩ := side_at (n3.out.below HBc.out) hlU.out hlt9.out
        obtain ⟨aD, hAD, d0, d1, d2, d3⟩ := side_at (n4.out.below HBc.out) hlD.out hlt9.out
        subst hAU hAD
        obtain ⟨su, hsu9⟩ : ∃ su, su = up.getD i zSd := ⟨_, rfl⟩
        obtain ⟨sd, hsd9⟩ : ∃ sd, sd = dn.getD i zSd := ⟨_, rfl⟩
        rw [← hsu9] at u0 u1 u2 u3 hsu HTI
        rw [← hsd9] at d0 d1 d2 d3 hsd HTI
        have KPick := am (fun W hW => pick_any p.c ok.out.hc round s hr.out.1 (by have := hr.out.2; omega) su sd hsu.1 hsu.2 hsd.1 hsd.2 p.A p.m W hW)
        have hTi : T i = pickL p.c round s su.d su.o sd.d sd.o su.far sd.far := by rw [HTI.out, if_neg (fun e => by rcases e with e | e; exact HST0.out e; (have := HBO.out; simp [e] at this))]
        have HTi := am hTi
        clear hTi hsu hsd hsu9 hsd9 HTI
        generalize pickL p.c round s su.d su.o sd.d sd.o su.far sd.far = pk at *
        have HXc := am (n1.out.below HBc.out)
        have gg := HXc.out.gcells
        have y0 := bx.cell (bx.below ⟨_, n6.out⟩ HBc.out)
        have y1 := bx.cell (bx.below ⟨_, n7.out⟩ HBc.out)
        have tt := cells4 (blk_below n2.out HBc.out)
        have qi := eq_true (show ((i : Int) < (p.N : Int)) by have := hlt9.out; omega)
        go_upto_region 22 with (fail)
        have HN := am (below_drew (Below.refl Wc.heap.size Wc))
        refine startB (n := 26) (F := fun _ => False) (ds := [24]) (by kernel_rfl) rfl (fun hHeld => ?_)
        refine plan_ [.t 0 129, .p 1 130, .p 2 131, .t 3 132, .t 4 133, .p 5 134, .p 6 135, .t 7 136, .t 8 137, .p 9 138, .t 10 139, .p 11 140, .p 12 141, .t 13 142, .p 14 143, .t 15 144, .p 16 145, .p 17 146, .t 18 147] ?_
        repeat (first | refine jP ?_ | refine jW hHeld ?_ | refine jG ?_)
        refine planE ?_
        refine join_ (2) (#[true, true, true, true, true, true, true, true, true, true, true, true, true, true, true, true, true, true, true, true, true, true, true, true, false, false]) (fun (s_ : S117 × Option Addr × Nat × Bool × Nat) => [(148, .tuple #[.agg (frV s_.1 (.slice s_.2.1 s_.1.f4.length s_.2.2.1)), .bool s_.2.2.2.1]), (128, .tuple #[.agg (frV s_.1 (.slice s_.2.1 s_.1.f4.length s_.2.2.1)), .bool s_.2.2.2.1]), (149, .agg (frV s_.1 (.slice s_.2.1 s_.1.f4.length s_.2.2.1))), (150, .bool s_.2.2.2.1), (15, .pointer (some ⟨s_.2.2.2.2, 0, none⟩))]) (fun (s_ : S117 × Option Addr × Nat × Bool × Nat) (w' : World) => Aside0 (RdT k55 55 w' (.slice s_.2.1 s_.1.f4.length s_.2.2.1) s_.1.f4) ∧ Aside0 (pk = (if s_.2.2.2.1 = true then some s_.1 else none)) ∧ Aside0 (Wc.heap.size ≤ s_.2.2.2.2) ∧ Aside0 (w'.heap[s_.2.2.2.2]? = some (.cells #[.int .i64 0, .int .i64 0, .int .i64 0, .int .i64 0, .int .i64 0, .slice none 0 0] 117 (0, 0))) ∧ Aside0 (Below Wc.heap.size Wc w')) ?_ (fun hJ => ?_)
        rotate_left
        refine twoB (i := 19) (j := 23) rfl rfl rfl rfl (by kernel_rfl) (by decide) (by decide) (fun K hK => ?_) (fun K hK => ?_)
        ·refine kC Tryz.func77 #[p.c.v p.A p.m, .int .i64 round, .int .i64 s, .agg #[.string (S su.d), .string (S su.s), .string (S su.o), .int .i64 su.far], .agg #[.string (S sd.d), .string (S sd.s), .string (S sd.o), .int .i64 sd.far]] ?_
         refine (KPick.out _ (HXc.out.im.below HN.out).C).mono ?_
         rintro e Wn ⟨f, A9, m9, b, rfl, hR, hb, hpk⟩
         have n1_ := am (b_tr HN.out hb)
         first | (replace HZB := am (blk_below HZB.out hb)) | skip
         first | (replace HRP := am (HRP.out.below hb)) | skip
         clear HN hb
         have HN := n1_
         clear n1_
         have HRP := am hR
         have HPK := am hpk
         clear hR hpk
         refine ⟨_, rfl, ?_⟩
         refine hK.out _ _ (Kp.of HN.out) (fun hHeld => ?_)
         clear hK K
         refine jM 148 ?_
         refine plan_ [.p 20 128, .p 21 149, .p 22 150] ?_
         repeat (first | refine jP ?_ | refine jW hHeld ?_ | refine jG ?_)
         refine planE ?_
         refine jO 23 (some 15) (fun K hK => ?_)
         refine alloc_ev (.cells #[.int .i64 0, .int .i64 0, .int .i64 0, .int .i64 0, .int .i64 0, .slice none 0 0] 117) (by rfl) rfl (fun w' => by go_simp; try rfl) (fun fb Wn hxe hxb hb => ?_)
         have HZz := am (Nat.le_trans HN.out.size hxe)
         have n1_ := am (b_tr HN.out hb)
         first | (replace HZB := am (blk_below HZB.out hb)) | skip
         first | (replace HRP := am (HRP.out.below hb)) | skip
         clear HN hb
         have HN := n1_
         clear n1_
         have HZB := am hxb
         clear hxb hxe
         refine hK.out _ _ (Kp.of HN.out) (fun hHeld => ?_)
         clear hK K
         refine jM 15 ?_
         exact goJ (by kernel_rfl) (by simp only [putAll, s0, s1, s2, s3]) (hJ (f, A9, m9, b, fb) _ ⟨HRP, HPK, HZz, HZB, HN⟩)
        ·refine alloc_ev (.cells #[.int .i64 0, .int .i64 0, .int .i64 0, .int .i64 0, .int .i64 0, .slice none 0 0] 117) (by rfl) rfl (fun w' => by go_simp; try rfl) (fun fb Wn hxe hxb hb => ?_)
         have HZz := am (Nat.le_trans HN.out.size hxe)
         have n1_ := am (b_tr HN.out hb)
         first | (replace HZB := am (blk_below HZB.out hb)) | skip
         first | (replace HRP := am (HRP.out.below hb)) | skip
         clear HN hb
         have HN := n1_
         clear n1_
         have HZB := am hxb
         clear hxb hxe
         refine hK.out _ _ (Kp.of HN.out) (fun hHeld => ?_)
         clear hK K
         refine jM 15 ?_
         refine jO 19 (some 148) (fun K hK => ?_)
         refine kC Tryz.func77 #[p.c.v p.A p.m, .int .i64 round, .int .i64 s, .agg #[.string (S su.d), .string (S su.s), .string (S su.o), .int .i64 su.far], .agg #[.string (S sd.d), .string (S sd.s), .string (S sd.o), .int .i64 sd.far]] ?_
         refine (KPick.out _ (HXc.out.im.below HN.out).C).mono ?_
         rintro e Wn ⟨f, A9, m9, b, rfl, hR, hb, hpk⟩
         have n1_ := am (b_tr HN.out hb)
         first | (replace HZB := am (blk_below HZB.out hb)) | skip
         first | (replace HRP := am (HRP.out.below hb)) | skip
         clear HN hb
         have HN := n1_
         clear n1_
         have HRP := am hR
         have HPK := am hpk
         clear hR hpk
         refine ⟨_, rfl, ?_⟩
         refine hK.out _ _ (Kp.of HN.out) (fun hHeld => ?_)
         clear hK K
         refine jM 148 ?_
         refine plan_ [.p 20 128, .p 21 149, .p 22 150] ?_
         repeat (first | refine jP ?_ | refine jW hHeld ?_ | refine jG ?_)
         refine planE ?_
         exact goJ (by kernel_rfl) (by simp only [putAll, s0, s1, s2, s3]) (hJ (f, A9, m9, b, fb) _ ⟨HRP, HPK, HZz, HZB, HN⟩)
        rintro ⟨f, A9, m9, b, fb⟩ W2 ⟨HRP, HPK, HZz, HZB, HN⟩
        have hHeld := Kp.of (F := fun _ => False) HN.out
        simp only
        refine norm_ (a' := _) (by simp only [putAll, s0, s1, s2, s3]; rfl) ?_
        refine jL 24 none (fun K hK => ?_)
        refine store_ev (by rfl) rfl _ _ _ rfl fb 0 117 #[.int .i64 f.f0, .int .i64 f.f1, .int .i64 f.f2, .int .i64 f.f3.f0, .int .i64 f.f3.f1, .slice A9 f.f4.length m9] [.int .i64 0, .int .i64 0, .int .i64 0, .int .i64 0, .int .i64 0, .slice none 0 0] rfl (by rfl) HZB.out (by simp) info_frame (by simp [Value.oneCell']) (fun W3 h3 k3 => ?_)
        have HF3 := am h3
        have K3 := am k3
        clear h3 k3
        refine hK.out _ _ ?_
        clear hK K
        refine plan_ [.p 25 16] ?_
        repeat (first | refine jP ?_ | refine jW hHeld ?_ | refine jG ?_)
        refine planE ?_
        refine done_ (by kernel_rfl) ?_
        have BX := am (b_tr HBc.out (below_kp HN.out K3.out HZz.out HN.out.size))
        have HFB := am (show W3.heap[fb]? = some (.cells (frV f (.slice A9 f.f4.length m9)) 117 (0, 0)) from HF3.out)
        have HRF := am (HRP.out.kp plain_item K3.out (fun k cells e hc => by subst e; exact ne_of_types hc HZB.out (by decide) rfl))
        have HTk := am (hTk.out.below BX.out)
        have HK3 := am (hK9.out.then_ BX.out)
        clear HF3 HRP HZB K3 HN hHeld gg y0 y1 tt u0 u1 u2 u3 d0 d1 d2 d3 KPick HXc
        cases b
        ·have hp : T i = none := by rw [HTi.out, HPK.out]; simp
         have HP := am hp
         clear hp
         go_wp2
         go_roundw
         case rel => exact ⟨i + 1, by simp, by have := hlt9.out; omega, ⟨by rw [fillT_none hlt9.out HP.out]; exact HTk.out⟩, HK3⟩
         case measure => have := hlt9.out; simp [intOf]; omega
        ·have hp : T i = some f := by rw [HTi.out, HPK.out]; simp
         have HP := am hp
         clear hp
         have tt := cells4 (blk_below n2.out BX.out)
         obtain ⟨q, hq1, hq2, -⟩ := HTk.out.h
         obtain ⟨uq, huq⟩ : ∃ uq, (q.map fun x => Value.pointer (x.map fun g => (⟨g, 0, none⟩ : Addr))).toArray[i]? = some uq := ⟨_, Array.getElem?_eq_getElem (show i < ((q.map fun x => Value.pointer (x.map fun g => (⟨g, 0, none⟩ : Addr))).toArray).size from by rw [List.size_toArray, List.length_map, hq1]; exact hlt9.out)⟩
         have yk := (blk_cell hq2 i).trans huq
         have yf := blk_frozen hq2 i
         clear hq1 hq2 huq
         go_wp2
         go_roundw
         case rel => exact ⟨i + 1, by simp, by have := hlt9.out; omega, ⟨by rw [← fillT_step hlt9.out, HP.out]; exact HTk.out.set hlt9.out HFB.out HRF.out⟩, ⟨HK3.out.set_ (p := ⟨kb, i, none⟩) (.inl rfl) _⟩⟩
         case measure => have := hlt9.out; simp [intOf]; omega
       ·have hTi : T i = none := by rw [HTI.out, if_pos (.inr (by have := HBO.out; simpa using this.symm))]
        have HTi := am hTi
        clear hTi
        go_wp2
        go_roundw
        case rel => exact ⟨i + 1, by simp, by omega, ⟨by rw [fillT_none hlt9.out HTi.out]; exact hTk.out.below HBc.out⟩, ⟨hK9.out.then_ HBc.out⟩⟩
        case measure => simp [intOf]; omega
      ·have hTi : T i = none := by rw [HTI.out, if_pos (.inl (by simpa using hst))]
       have HTi := am hTi
       clear hTi
       go_wp2
       go_roundw
       case rel => exact ⟨i + 1, by simp, by omega, ⟨by rw [fillT_none hlt9.out HTi.out]; exact hTk.out⟩, hK9⟩
       case measure => simp [intOf]; omega
     ·obtain rfl : i = p.N := by omega
      have hf := hTk.out
      rw [fillT_all] at hf
      have HF := am hf
      have tt := cells4 n2.out
      have KW9 := am (KW.out.trans' hK9.out hxs.out.2.1)
      clear hf hlt hi KW
      go_wp2_with (((with_reducible refine gate_ (.store 95 (.tmp 4) (.tmp 157)) rfl ?_); refine store_part rfl 95 (.tmp 4) (.tmp 157) rfl ((w.heap.size + 1 + 1)) 0 95 #[.slice (some ⟨xb, 0, none⟩) p.N p.N, .slice AU p.N mU, .slice AD p.N mD, .slice (some ⟨kb, 0, none⟩) p.N p.N] [.slice none 0 0, .slice none 0 0, .slice none 0 0, .slice none 0 0] rfl rfl n5.out (by simp) info_slot4 (by simp [Value.oneCell']) ?_; intro W10 HG_ KG_; have HG := am HG_; have KG := am KG_; clear HG_ KG_))
      have e1 : (rd ow ((ow.length : Int) - 1)).toNat = o1 := by rw [show ((ow.length : Int) - 1) = (L : Int) by have := HL.out; omega, HE1.out]; rfl
      have e2 : (rd ow 0).toNat = o2 := by
       have h : rd ow 0 = (o2 : Int) := HE2.out
       rw [h]; rfl
      have hz := HRZ.out
      first | rw [if_neg (by first | exact HZ.out | (have := HL.out; omega))] at hz | skip
      rw [← HFE.out] at hz
      simp only at hz
      rw [e1, e2, ← HST.out, ← HUP.out, ← HDN.out, ← HTZ.out] at hz
      refine bodyPost_ret (v := .agg #[.slice (some ⟨xb, 0, none⟩) p.N p.N, .slice AU p.N mU, .slice AD p.N mD, .slice (some ⟨kb, 0, none⟩) p.N p.N]) (results_cell_row Tryz.results44 _ W10 _ _ _ _ _ rfl HG.out hu rfl info_slot4) rfl ⟨⟨_, _, _, _, rfl, ?_⟩, ?_, KW9.out.trans' KG.out (by omega)⟩
      ·rw [hz]
       have hx8 := KG.out.blk n9.out (fun e => ne_of_types n9.out n5.out (by decide) e)
       have h12 := hN12.out
       have hn9 := hn.out
       exact ⟨by have := strs_R hx8 (by omega); rw [hn9] at this; exact this, hn9, by have := n3.out.kp plain_side KG.out (fun k cells e hc => by subst e; exact ne_of_types hc n5.out (by decide) rfl); exact this, hlU.out, by have := n4.out.kp plain_side KG.out (fun k cells e hc => by subst e; exact ne_of_types hc n5.out (by decide) rfl); exact this, hlD.out, ⟨kb, rfl, HF.out.keep KG.out (fun k cells T e hc => by
        subst e
        rw [n5.out] at hc
        simp only [Option.some.injEq, Obj.cells.injEq] at hc
        obtain ⟨_, h9, _⟩ := hc
        subst h9
        decide)⟩⟩
      ·rw [hz]
       exact n1.out.other KG.out (fun k e => by subst e; exact ⟨_, _, n5.out, by simp [OT]⟩)
end Go.Proofs.YtgcgglmmfgmaoaaGreat.PK
end
section
namespace Go.Proofs.YtgcgglmmfgmaoaaGreat.PK
open Go Go.RowKit Go.Proofs.YtgcgglmmfgmaoaaGreatW.PrintWords Go.Proofs.YtgcgglmmfgmaoaaGreatW.PrintLast Go.Proofs.YtgcgglmmfgmaoaaGreatW.PrintMore
attribute [local go_sem] max2_int min2_int max_two min_two
abbrev Sv := Option Addr × Nat × Nat
def Sv.v (x : Sv) : Value := .slice x.1 x.2.1 x.2.2
def kSv : Kd Sv := Kd.scalar Sv.v (fun _ => rfl)
abbrev Sq := Sv × Sv × Sv × Sv
def kSq : Kd Sq := Kd.pair kSv (Kd.pair kSv (Kd.pair kSv kSv))
def Sq.cs (x : Sq) : List Value := [x.1.v, x.2.1.v, x.2.2.1.v, x.2.2.2.v]
theorem kSq_open {w : World} {x : Sq} {cs : List Value} (h : kSq.K w x cs) : cs = x.cs := by
 obtain ⟨c1, c2, rfl, h1, d1, d2, rfl, h3, e1, e2, rfl, h5, h6⟩ := h
 obtain rfl : c1 = [x.1.v] := h1
 obtain rfl : d1 = [x.2.1.v] := h3
 obtain rfl : e1 = [x.2.2.1.v] := h5
 obtain rfl : e2 = [x.2.2.2.v] := h6
 rfl
theorem kSq_mk (w : World) (x : Sq) : kSq.K w x x.cs := ⟨[x.1.v], _, rfl, rfl, [x.2.1.v], _, rfl, rfl, [x.2.2.1.v], [x.2.2.2.v], rfl, rfl, rfl⟩
theorem kSq_mkM (w : World) (base : Nat) (ok : Nat → Prop) (x : Sq) : kSq.M w base ok x x.cs := ⟨[x.1.v], _, rfl, rfl, [x.2.1.v], _, rfl, rfl, [x.2.2.1.v], [x.2.2.2.v], rfl, rfl, rfl⟩
theorem plain_slot : Plain kSq := fun _ w' x _ h => by obtain rfl := kSq_open h; exact kSq_mk w' x
theorem SlR.keep {W W' : World} {N : Nat} {sl : Sl} {v1 v2 v3 v4 : Value} (h : SlR W N sl v1 v2 v3 v4) {F : Nat → Prop} (hk : Kp F W W') (hF : ∀ k cells T, F k → W.heap[k]? = some (.cells cells T (0, 0)) → T ≠ 9 ∧ T ≠ 127 ∧ T ≠ 128 ∧ T ≠ 117 ∧ T ≠ 55) : SlR W' N sl v1 v2 v3 v4 := by
 refine ⟨h.sent.kp (fun _ _ _ _ h => h) hk (fun k cells e hc => (hF k cells _ e hc).1 rfl), h.sn, h.up.kp plain_side hk (fun k cells e hc => (hF k cells _ e hc).2.1 rfl), h.un, h.down.kp plain_side hk (fun k cells e hc => (hF k cells _ e hc).2.1 rfl), h.dn, ?_⟩
 obtain ⟨tb, e, ht⟩ := h.took
 exact ⟨tb, e, ht.keep hk (fun k cells T hf hc => (hF k cells T hf hc).2.2)⟩
structure StR (p : NtP) (W : World) (v : Value) (l : List Sl) : Prop where
 h : ∃ q : List Sq, RdT kSq 95 W v q ∧ q.length = l.length ∧ ∀ (i : Nat) (x : Sq) (sl : Sl), q[i]? = some x → l[i]? = some sl → SlR W p.N sl x.1.v x.2.1.v x.2.2.1.v x.2.2.2.v
theorem StR.keep {p : NtP} {W W' : World} {v : Value} {l : List Sl} (h : StR p W v l) {F : Nat → Prop} (hk : Kp F W W') (hF : ∀ k cells T, F k → W.heap[k]? = some (.cells cells T (0, 0)) → T ≠ 95 ∧ T ≠ 9 ∧ T ≠ 127 ∧ T ≠ 128 ∧ T ≠ 117 ∧ T ≠ 55) : StR p W' v l := by
 obtain ⟨q, h1, h2, h3⟩ := h.h
 exact ⟨q, h1.kp plain_slot hk (fun k cells e hc => (hF k cells _ e hc).1 rfl), h2, fun i x sl a b => (h3 i x sl a b).keep hk (fun k cells T hf hc => (hF k cells T hf hc).2)⟩
theorem StR.below {p : NtP} {W W' : World} {v : Value} {l : List Sl} (h : StR p W v l) (hb : Below W.heap.size W W') : StR p W' v l := h.keep (F := fun _ => False) (Kp.of hb) (fun _ _ _ e => e.elim)
theorem StR.at {p : NtP} {W : World} {v : Value} {l : List Sl} (h : StR p W v l) (k : Nat) (sl : Sl) (hk : l[k]? = some sl) : ∃ (ad : Addr) (m : Nat) (x : Sq), v = .slice (some ad) l.length m ∧ W.cell? (ad.add (k * 4)) = some x.1.v ∧ W.cell? ⟨(ad.add (k * 4)).block, (ad.add (k * 4)).off + 1, none⟩ = some x.2.1.v ∧ W.cell? ⟨(ad.add (k * 4)).block, (ad.add (k * 4)).off + 2, none⟩ = some x.2.2.1.v ∧ W.cell? ⟨(ad.add (k * 4)).block, (ad.add (k * 4)).off + 3, none⟩ = some x.2.2.2.v ∧ SlR W p.N sl x.1.v x.2.1.v x.2.2.1.v x.2.2.2.v := by
 obtain ⟨q, ⟨A, m, hv, _, ⟨_, _, h6⟩, _⟩, hql, hs⟩ := h.h
 have hkl : k < l.length := (List.getElem?_eq_some_iff.1 hk).1
 obtain ⟨ad, hA, hc⟩ := h6 (by omega)
 subst hA
 have hx : q[k]? = some q[k] := List.getElem?_eq_getElem (by omega)
 obtain ⟨c, _, e2, e3⟩ := hc k _ hx
 obtain rfl := kSq_open e2
 exact ⟨ad, m, q[k], by rw [hv, hql], e3 0 _ rfl, by rw [← add_field _ _ 1 (by omega)]; exact e3 1 _ rfl, by rw [← add_field _ _ 2 (by omega)]; exact e3 2 _ rfl, by rw [← add_field _ _ 3 (by omega)]; exact e3 3 _ rfl, hs k _ _ hx hk⟩
theorem TkR.at {W : World} {N b : Nat} {l : List (Option S117)} (h : TkR W N b l) {i : Nat} (hi : i < N) : (l[i]? = some none ∧ W.cell? ⟨b, i, none⟩ = some (.pointer none)) ∨ ∃ (f : S117) (g : Nat) (v : Value), l[i]? = some (some f) ∧ W.cell? ⟨b, i, none⟩ = some (.pointer (some ⟨g, 0, none⟩)) ∧ W.heap[g]? = some (.cells (frV f v) 117 (0, 0)) ∧ RdT k55 55 W v f.f4 := by
 obtain ⟨q, h1, h2, h3⟩ := h.h
 have h4 := h3 i
 have hq : q[i]? = some q[i] := List.getElem?_eq_getElem (by omega)
 have hl : l[i]? = some (l[i]'(by rw [h.n]; exact hi)) := List.getElem?_eq_getElem (by rw [h.n]; exact hi)
 have hc : W.cell? ⟨b, i, none⟩ = some (Value.pointer (q[i].map fun g => ⟨g, 0, none⟩)) := by
  rw [blk_cell h2 i, List.getElem?_toArray, List.getElem?_map, hq]; rfl
 rw [hq, hl] at h4
 rw [hl, hc]
 revert h4
 cases q[i] with
 | none => cases l[i]'(by rw [h.n]; exact hi) with
  | none => exact fun _ => .inl ⟨rfl, rfl⟩
  | some f => exact fun e => e.elim
 | some g => cases l[i]'(by rw [h.n]; exact hi) with
  | none => exact fun e => e.elim
  | some f => exact fun ⟨v, h5, h6⟩ => .inr ⟨f, g, v, rfl, rfl, h5, h6⟩
end Go.Proofs.YtgcgglmmfgmaoaaGreat.PK
end
section
namespace Go.Proofs.YtgcgglmmfgmaoaaGreat.PK
open Go Go.RowKit Go.Proofs.YtgcgglmmfgmaoaaGreatW.PrintWords Go.Proofs.YtgcgglmmfgmaoaaGreatW.PrintLast Go.Proofs.YtgcgglmmfgmaoaaGreatW.PrintMore
attribute [local go_sem] max2_int min2_int max_two min_two
def itemZ (l : List Sl) (i s : Nat) : S55 := match (l.getD s ⟨[], [], [], []⟩).took.getD i none with | some f => if f.f0 = 3 then f.f3 else ⟨0, 0⟩ | none => ⟨0, 0⟩
theorem net_item (p : NtP) (ok0 : p.OK) (nb : Nat) (round : Int) (nz : List Nz) (sv cv : Value) (l : List Sl) (hl : l.length = p.Q) (i s : Nat) (hi : i < p.N) (hs : s < p.Q) (w : World) (h : NB p w nb round nz sv cv) (hst : StR p w sv l) :
  Calls Tryz.prog 79 #[.pointer (some ⟨p.g, 0, none⟩), .int .i64 i, .int .i64 s] w fun e w' => e = .returned (.agg #[.int .i64 (itemZ l i s).f0, .int .i64 (itemZ l i s).f1]) ∧ Below w.heap.size w w' := by
 have hsl : l[s]? = some (l[s]'(by omega)) := List.getElem?_eq_getElem (by omega)
 obtain ⟨sl, hsl9⟩ : ∃ sl, sl = l[s]'(by omega) := ⟨_, rfl⟩
 rw [← hsl9] at hsl
 have hz : itemZ l i s = match sl.took.getD i none with | some f => if f.f0 = 3 then f.f3 else ⟨0, 0⟩ | none => ⟨0, 0⟩ := by
  have e : l.getD s ⟨[], [], [], []⟩ = sl := by rw [List.getD_eq_getElem?_getD, hsl]; rfl
  unfold itemZ
  rw [e]
 have b1 := b_al w (.cells #[.int .i64 0, .int .i64 0] 55)
 have HB := am b1
 have HX := am (h.below b1)
 have HRB := am (blk_new w (.cells #[.int .i64 0, .int .i64 0] 55))
 obtain ⟨ad, m, x, hv, c0, c1, c2, c3, hSl⟩ := (hst.below b1).at s sl hsl
 obtain ⟨tb, htb, hTk⟩ := hSl.took
 subst hv
 rw [htb] at c3
 have gg := HX.out.gcells
 have q0 := eq_true (show ((s : Int) < (l.length : Int)) by omega)
 have q1 := eq_true (show ((i : Int) < (p.N : Int)) by omega)
 have HZ := am hz
 have hpt := hTk.at hi
 generalize itemZ l i s = it at *
 clear hz hl hs hi hst h b1 hSl hTk htb c0 c1 c2 hsl hsl9
 have hu := Tryz.underlying55
 go_enter Tryz.func79, Tryz.ntmps79
 go_upto_region 1 with (fail)
 generalize w.alloc (.cells #[.int .i64 0, .int .i64 0] 55) = W1 at *
 rcases hpt with ⟨ht, hc⟩ | ⟨f, g, v, ht, hc, hg, hR⟩
 ·have HT := am ht
  clear ht
  go_wp2_with (((with_reducible refine gate_ (.store 55 (.tmp 6) (.tmp 28)) rfl ?_); refine store_part rfl 55 (.tmp 6) (.tmp 28) rfl (w.heap.size) 0 55 #[.int .i64 0, .int .i64 0] [.int .i64 0, .int .i64 0] rfl rfl HRB.out (by simp) info_item2 (by simp [Value.oneCell']) ?_; intro W2 HG_ KG_; have HG := am HG_; have KG := am KG_; clear HG_ KG_))
  have hz := HZ.out
  rw [List.getD_eq_getElem?_getD, HT.out] at hz
  simp only [Option.getD_some] at hz
  subst hz
  exact bodyPost_ret (v := .agg #[.int .i64 0, .int .i64 0]) (results_cell_row Tryz.results79 _ W2 _ _ _ _ _ rfl HG.out hu rfl info_item2) rfl ⟨rfl, below_kp HB.out KG.out (Nat.le_refl _) HB.out.size⟩
 ·have HT := am ht
  have ff := cells6 hg
  clear ht hg
  cases hk : (f.f0 == 3)
  ·have HK := am (show ¬ f.f0 = 3 by simpa using hk)
   have hk2 : (f.f0 != 3) = true := by simpa using hk
   go_wp2_with (((with_reducible refine gate_ (.store 55 (.tmp 6) (.tmp 28)) rfl ?_); refine store_part rfl 55 (.tmp 6) (.tmp 28) rfl (w.heap.size) 0 55 #[.int .i64 0, .int .i64 0] [.int .i64 0, .int .i64 0] rfl rfl HRB.out (by simp) info_item2 (by simp [Value.oneCell']) ?_; intro W2 HG_ KG_; have HG := am HG_; have KG := am KG_; clear HG_ KG_))
   have hz := HZ.out
   rw [List.getD_eq_getElem?_getD, HT.out] at hz
   simp only [Option.getD_some] at hz
   rw [if_neg HK.out] at hz
   subst hz
   exact bodyPost_ret (v := .agg #[.int .i64 0, .int .i64 0]) (results_cell_row Tryz.results79 _ W2 _ _ _ _ _ rfl HG.out hu rfl info_item2) rfl ⟨rfl, below_kp HB.out KG.out (Nat.le_refl _) HB.out.size⟩
  ·have HK := am (show f.f0 = 3 by simpa using hk)
   have hk2 : (f.f0 != 3) = false := by simpa using hk
   go_wp2_with (((with_reducible refine gate_ (.store 55 (.tmp 6) (.tmp 32)) rfl ?_); refine store_part rfl 55 (.tmp 6) (.tmp 32) rfl (w.heap.size) 0 55 #[.int .i64 f.f3.f0, .int .i64 f.f3.f1] [.int .i64 0, .int .i64 0] rfl rfl HRB.out (by simp) info_item2 (by simp [Value.oneCell']) ?_; intro W2 HG_ KG_; have HG := am HG_; have KG := am KG_; clear HG_ KG_))
   have hz := HZ.out
   rw [List.getD_eq_getElem?_getD, HT.out] at hz
   simp only [Option.getD_some] at hz
   rw [if_pos HK.out] at hz
   subst hz
   exact bodyPost_ret (v := .agg #[.int .i64 f.f3.f0, .int .i64 f.f3.f1]) (results_cell_row Tryz.results79 _ W2 _ _ _ _ _ rfl HG.out hu rfl info_item2) rfl ⟨rfl, below_kp HB.out KG.out (Nat.le_refl _) HB.out.size⟩
end Go.Proofs.YtgcgglmmfgmaoaaGreat.PK
end
section
namespace Go.Proofs.YtgcgglmmfgmaoaaGreat.PK
open Go Go.RowKit Go.Proofs.YtgcgglmmfgmaoaaGreatW.PrintWords Go.Proofs.YtgcgglmmfgmaoaaGreatW.PrintLast Go.Proofs.YtgcgglmmfgmaoaaGreatW.PrintMore
attribute [local go_sem] max2_int min2_int max_two min_two
def tookAt (l : List Sl) (k i : Nat) : Option S117 := (l.getD k ⟨[], [], [], []⟩).took.getD i none
def heardZ (p : NtP) (round : Int) (nz : List Nz) (l : List Sl) (i : Nat) : Nat → List S179
 | 0 => []
 | k + 1 => match tookAt l k i with | some f => heardZ p round nz l i k ++ [⟨k, f.f0, devZ p round nz k i⟩] | none => heardZ p round nz l i k
theorem heardZ_len (p : NtP) (round : Int) (nz : List Nz) (l : List Sl) (i : Nat) : ∀ k, (heardZ p round nz l i k).length ≤ k
 | 0 => Nat.le_refl _
 | k + 1 => by
  have := heardZ_len p round nz l i k
  rw [heardZ]
  split
  ·simp; omega
  ·omega
theorem info_heard9 : (Tryz.prog.info? 179).map (fun i => (i.zero, i.size, i.bytes)) = some (some (.agg #[.int .i64 0, .int .i64 0, .int .i64 0]), 3, 24) := by kernel_rfl
theorem net_heard (p : NtP) (ok0 : p.OK) (nb : Nat) (round : Int) (hr0 : 0 ≤ round) (hr1 : round ≤ 1000) (nz : List Nz) (sv cv : Value) (l : List Sl) (hl : l.length = p.Q) (i : Nat) (hi : i < p.N) (w : World) (h : NB p w nb round nz sv cv) (hst : StR p w sv l) :
  Calls Tryz.prog 80 #[.pointer (some ⟨p.g, 0, none⟩), .int .i64 i] w fun e w' => ∃ v, e = .returned v ∧ Kd.R k179 179 w' w.heap.size (fun _ => True) v (heardZ p round nz l i p.N) ∧ Below w.heap.size w w' := by
 have ok := am ok0
 have HH := am h
 have HS := am hst
 have hr := am (And.intro hr0 hr1)
 have hN12 := am (show p.N ≤ 12 ∧ p.c.n = p.N ∧ l.length = p.Q ∧ p.N ≤ p.Q ∧ i < p.N ∧ nz.length = p.N by
  have := ok0.hc.n12; have := ok0.hN; have := ok0.hQ; have := h.hl
  unfold Cf.slots at *
  omega)
 have gg := h.gcells
 clear h hst hr0 hr1 hl hi ok0
 go_enter Tryz.func80, Tryz.ntmps80
 go_wp2
 clear gg
 go_loopw [5, 13] (fun vo v w' => ∃ k : Nat, v = .int .i64 k ∧ k ≤ p.N ∧ Aside0 (Kd.R k179 179 w' w.heap.size (fun _ => True) vo (heardZ p round nz l i k)) ∧ Aside0 (Below w.heap.size w w')) (fun _ v _ => p.N - (intOf v).toNat)
 case atStart => exact ⟨0, rfl, Nat.zero_le _, ⟨Kd.R_nil _ _ _ _ _⟩, ⟨Below.refl _ _⟩⟩
 case round =>
  obtain ⟨k, rfl, hk, hR0, hB0⟩ := hrel
  by_cases hlt : k < p.N
  ·have HX := am (HH.out.below hB0.out)
   have HB := hB0
   have HR := hR0
   have hlt9 := am hlt
   have hkl : l[k]? = some (l[k]'(by have := hN12.out; omega)) := List.getElem?_eq_getElem _
   obtain ⟨sl, hsl⟩ : ∃ sl, sl = l[k]'(by have := hN12.out; omega) := ⟨_, rfl⟩
   rw [← hsl] at hkl
   obtain ⟨ad, m, x, hv, c0, c1, c2, c3, hSl⟩ := (HS.out.below hB0.out).at k sl hkl
   obtain ⟨tb, htb, hTk⟩ := hSl.took
   subst hv
   rw [htb] at c3
   have hta : tookAt l k i = sl.took.getD i none := by
    have e : l.getD k ⟨[], [], [], []⟩ = sl := by rw [List.getD_eq_getElem?_getD, hkl]; rfl
    unfold tookAt
    rw [e]
   have hpt := hTk.at hN12.out.2.2.2.2.1
   have gg := HX.out.gcells
   have q0 := eq_true (show ((k : Int) < (l.length : Int)) by have := hN12.out; omega)
   have q1 := eq_true (show ((i : Int) < (p.N : Int)) by have := hN12.out; omega)
   have q2 := eq_true (show ((k : Int) < p.c.n) by have := hN12.out; omega)
   have hk12 : k ≤ 12 := by have := hN12.out; omega
   have HTA := am hta
   clear hta hkl hsl hSl hTk htb c0 c1 c2 hk hR0 hB0
   rcases hpt with ⟨ht, hc⟩ | ⟨f, g, v, ht, hc, hg, hRf⟩
   ·have HT := am ht
    clear ht
    go_wp2
    go_roundw
    case rel => exact ⟨k + 1, by simp, hlt9.out, ⟨by
     have e : tookAt l k i = none := by rw [HTA.out, List.getD_eq_getElem?_getD, HT.out]; rfl
     rw [heardZ, e]
     exact HR.out⟩, HB⟩
    case measure => simp [intOf]; omega
   ·have HT := am ht
    have HST := am (show heardZ p round nz l i (k + 1) = heardZ p round nz l i k ++ [⟨k, f.f0, devZ p round nz k i⟩] from by
     have e : tookAt l k i = some f := by rw [HTA.out, List.getD_eq_getElem?_getD, HT.out]; rfl
     rw [heardZ, e])
    have hol := am (show (heardZ p round nz l i k).length ≤ 12 from Nat.le_trans (heardZ_len _ _ _ _ _ _) (by have := hN12.out; have := hlt9.out; omega))
    have KD := am (fun W hW => net_dev p ok.out nb round hr.out.1 hr.out.2 nz (.slice (some ad) l.length m) cv k i (by have := hN12.out; have := hlt9.out; omega) (by have := hN12.out; omega) W hW)
    obtain ⟨dv, hdv⟩ : ∃ dv, devZ p round nz k i = dv := ⟨_, rfl⟩
    rw [hdv] at HST KD
    obtain ⟨out, hout⟩ : ∃ out, heardZ p round nz l i k = out := ⟨_, rfl⟩
    rw [hout] at HST hol HR
    obtain ⟨A3, c3, rfl⟩ := Kd.R_slice HR.out
    have ff := cells6 hg
    clear ht hdv hout hg
    go_upto_region 7 with (fail)
    have HN := am (below_drew (Below.refl wr.heap.size wr))
    refine startB (n := 14) (F := fun _ => False) (ds := [12]) (by kernel_rfl) rfl (fun hHeld => ?_)
    refine plan_ [.p 0 29, .p 1 30, .p 2 31, .p 3 32, .p 4 33, .t 5 34, .p 6 35, .p 7 36, .p 8 37] ?_
    repeat (first | refine jP ?_ | refine jW hHeld ?_ | refine jG ?_)
    refine planE ?_
    refine jO 9 (some 38) (fun K hK => ?_)
    refine kC Tryz.func74 #[.pointer (some ⟨p.g, 0, none⟩), .int .i64 k, .int .i64 i] ?_
    refine (KD.out _ (HX.out.below HN.out)).mono ?_
    rintro e Wn ⟨rfl, hb⟩
    replace HN := am (b_tr HN.out hb)
    clear hb
    refine ⟨_, rfl, ?_⟩
    refine hK.out _ _ (Kp.of HN.out) (fun hHeld => ?_)
    clear hK K
    refine jM 38 ?_
    refine plan_ [.p 10 39] ?_
    repeat (first | refine jP ?_ | refine jW hHeld ?_ | refine jG ?_)
    refine planE ?_
    refine jO 11 (some 40) (fun K hK => ?_)
    refine value_ (v := .slice (some ⟨Wn.heap.size, 0, none⟩) 1 1) (w1 := Wn.alloc (.cells #[.int .i64 k, .int .i64 f.f0, .int .i64 dv] 179)) (by rfl) rfl (by go_simp; try rfl) ?_
    refine hK.out _ _ ((Kp.of HN.out).then_ (b_al _ _)) (fun hHeld => ?_)
    clear hK K
    refine jM 40 ?_
    refine jL 12 (some 41) (fun K hK => ?_)
    refine Kd.R_append_step k179 (w0 := w) (W := Wn) w.heap.size (by rfl) (.tmp 29) (.tmp 40) 130 179 (.agg #[.int .i64 0, .int .i64 0, .int .i64 0]) 24 rfl Tryz.underlying130 info_heard9 rfl (by decide) (by omega) _ out ⟨k, f.f0, dv⟩ [.int .i64 k, .int .i64 f.f0, .int .i64 dv] (fun _ => True) (fun _ => False) rfl rfl (k179_mkM _ _ _ _) (fun _ h => h.elim) (fun _ _ => trivial) (Kd.R_below HR.out HN.out) (b_tr HB.out HN.out) (by have := HN.out.size; have := HB.out.size; omega) (by have := hol.out; omega) ?_
    intro v4 W4 hR4 hB4 hg4 _
    have HB4 := am hB4
    have HR4 := am hR4
    have HG4 := am hg4
    clear hR4 hg4 hB4
    obtain ⟨A4, c4, rfl⟩ := Kd.R_slice HR4.out
    refine hK.out _ _ ?_
    clear hK K
    refine jM 41 ?_
    refine plan_ [.p 13 5] ?_
    repeat (first | refine jP ?_ | refine jW hHeld ?_ | refine jG ?_)
    refine planE ?_
    refine done_ (by kernel_rfl) ?_
    clear gg ff
    go_wp2
    go_roundw
    case rel => exact ⟨k + 1, by simp, hlt9.out, ⟨by have h9 := HR4.out; rw [List.length_append, List.length_singleton] at h9; rw [HST.out]; exact h9⟩, HB4⟩
    case measure => have := hlt9.out; simp [intOf]; omega
  ·obtain rfl : k = p.N := by omega
   have q2 := eq_false (show ¬ ((p.N : Int) < p.c.n) by have := hN12.out; omega)
   clear hlt hk
   go_wp2
   go_ret
   exact ⟨_, rfl, hR0.out, hB0.out⟩
end Go.Proofs.YtgcgglmmfgmaoaaGreat.PK
end
section
namespace Go.Proofs.YtgcgglmmfgmaoaaGreat.PK
open Go Go.RowKit Go.Proofs.YtgcgglmmfgmaoaaGreatW.PrintWords Go.Proofs.YtgcgglmmfgmaoaaGreatW.PrintLast Go.Proofs.YtgcgglmmfgmaoaaGreatW.PrintMore
attribute [local go_sem] max2_int min2_int max_two min_two
theorem info_vote3 : (Tryz.prog.info? 172).map (·.size) = some 3 := by kernel_rfl
def selfV (got : List S55) (s : Nat) : S172 := if s < got.length then ⟨true, got.getD s ⟨0, 0⟩⟩ else ⟨true, ⟨0, 0⟩⟩
def otherV (f : Option S117) (s : Nat) : S172 := match f with | some f => if f.f0 = 3 ∧ s < f.f4.length then ⟨true, f.f4.getD s ⟨0, 0⟩⟩ else ⟨false, ⟨0, 0⟩⟩ | none => ⟨false, ⟨0, 0⟩⟩
def voteA (x : S172) : Value := .agg #[.bool x.f0, .int .i64 x.f1.f0, .int .i64 x.f1.f1]
theorem item_at {W : World} {A : Option Addr} {m : Nat} {l : List S55} (h : RdT k55 55 W (.slice A l.length m) l) {s : Nat} (hs : s < l.length) : ∃ ad : Addr, A = some ad ∧ W.cell? (ad.add (s * 2)) = some (.int .i64 (l.getD s ⟨0, 0⟩).f0) ∧ W.cell? ⟨(ad.add (s * 2)).block, (ad.add (s * 2)).off + 1, none⟩ = some (.int .i64 (l.getD s ⟨0, 0⟩).f1) := by
 obtain ⟨ad, h1, h2, h3⟩ := at_T55 h.C.1 (s : Int) (by omega) (by omega)
 rw [Int.toNat_natCast] at h2 h3
 exact ⟨ad, h1, h2, h3⟩
theorem self_vote (A : Option Addr) (m : Nat) (l : List S55) (hl : l.length ≤ 100) (s : Nat) (hs : s ≤ 100) (w : World) (h : RdT k55 55 w (.slice A l.length m) l) :
  Calls Tryz.prog 218 #[.agg #[.slice A l.length m], .int .i64 s] w fun e w' => e = .returned (voteA (selfV l s)) ∧ Below w.heap.size w w' := by
 have bW := b_tr (b_al w (.cells #[.slice A l.length m] 222)) (b_al _ (.cells #[.bool false, .int .i64 0, .int .i64 0] 172))
 have HB := am bW
 have A0 := am (blk_alloc (blk_new w (.cells #[.slice A l.length m] 222)) (.cells #[.bool false, .int .i64 0, .int .i64 0] 172))
 have A1 := am (blk_new (w.alloc (.cells #[.slice A l.length m] 222)) (.cells #[.bool false, .int .i64 0, .int .i64 0] 172))
 rw [show (w.alloc (.cells #[.slice A l.length m] 222)).heap.size = w.heap.size + 1 by simp] at A1
 have HR := am (h.below bW)
 have hu := Tryz.underlying172
 by_cases hlt : s < l.length
 ·have e : selfV l s = ⟨true, l.getD s ⟨0, 0⟩⟩ := if_pos hlt
  rw [e]
  obtain ⟨ad, hA, c0, c1⟩ := item_at HR.out hlt
  subst hA
  obtain ⟨⟨ia, ib⟩, hit⟩ : ∃ it, it = l.getD s (⟨0, 0⟩ : S55) := ⟨_, rfl⟩
  rw [← hit] at c0 c1 ⊢
  have q0 := eq_true (show ((s : Int) < (l.length : Int)) by omega)
  have q1 := eq_false (show ¬ ((l.length : Int) ≤ (s : Int)) by omega)
  clear e h bW hit hlt
  go_enter Tryz.func218, Tryz.ntmps218
  go_upto_region 1 with (fail)
  generalize (w.alloc (.cells #[.slice (some ad) l.length m] 222)).alloc (.cells #[.bool false, .int .i64 0, .int .i64 0] 172) = W1 at *
  have y0 := bx.cell ⟨_, A0.out⟩
  go_wp2_with (((with_reducible refine gate_ (.store 172 (.tmp 4) (.tmp 16)) rfl ?_); refine store_part rfl 172 (.tmp 4) (.tmp 16) rfl ((w.heap.size + 1)) 0 172 #[.bool true, .int .i64 ia, .int .i64 ib] [.bool false, .int .i64 0, .int .i64 0] rfl rfl A1.out (by simp) info_vote3 (by simp [Value.oneCell']) ?_; intro W2 HG_ KG_; have HG := am HG_; have KG := am KG_; clear HG_ KG_))
  exact bodyPost_ret (v := .agg #[.bool true, .int .i64 ia, .int .i64 ib]) (results_cell_row Tryz.results218 _ W2 _ _ _ _ _ rfl HG.out hu rfl info_vote3) rfl ⟨rfl, below_kp HB.out KG.out (by omega) HB.out.size⟩
 ·have e : selfV l s = ⟨true, ⟨0, 0⟩⟩ := if_neg hlt
  rw [e]
  have q1 := eq_true (show ((l.length : Int) ≤ (s : Int)) by omega)
  clear e h bW hlt
  go_enter Tryz.func218, Tryz.ntmps218
  go_upto_region 1 with (fail)
  generalize (w.alloc (.cells #[.slice A l.length m] 222)).alloc (.cells #[.bool false, .int .i64 0, .int .i64 0] 172) = W1 at *
  have y0 := bx.cell ⟨_, A0.out⟩
  go_wp2_with (((with_reducible refine gate_ (.store 172 (.tmp 4) (.tmp 10)) rfl ?_); refine store_part rfl 172 (.tmp 4) (.tmp 10) rfl ((w.heap.size + 1)) 0 172 #[.bool true, .int .i64 0, .int .i64 0] [.bool false, .int .i64 0, .int .i64 0] rfl rfl A1.out (by simp) info_vote3 (by simp [Value.oneCell']) ?_; intro W2 HG_ KG_; have HG := am HG_; have KG := am KG_; clear HG_ KG_))
  exact bodyPost_ret (v := .agg #[.bool true, .int .i64 0, .int .i64 0]) (results_cell_row Tryz.results218 _ W2 _ _ _ _ _ rfl HG.out hu rfl info_vote3) rfl ⟨rfl, below_kp HB.out KG.out (by omega) HB.out.size⟩
inductive PtR (W : World) : Option S117 → Value → Prop where
 | no : PtR W none (.pointer none)
 | yes (f : S117) (g : Nat) (v : Value) (hg : W.heap[g]? = some (.cells (frV f v) 117 (0, 0))) (hr : RdT k55 55 W v f.f4) : PtR W (some f) (.pointer (some ⟨g, 0, none⟩))
theorem other_vote (o : Option S117) (pv : Value) (s : Nat) (hs : s ≤ 100) (w : World) (h : PtR w o pv) :
  Calls Tryz.prog 219 #[.agg #[pv], .int .i64 s] w fun e w' => e = .returned (voteA (otherV o s)) ∧ Below w.heap.size w w' := by
 have bW := b_tr (b_al w (.cells #[pv] 224)) (b_al _ (.cells #[.bool false, .int .i64 0, .int .i64 0] 172))
 have HB := am bW
 have A0 := am (blk_alloc (blk_new w (.cells #[pv] 224)) (.cells #[.bool false, .int .i64 0, .int .i64 0] 172))
 have A1 := am (blk_new (w.alloc (.cells #[pv] 224)) (.cells #[.bool false, .int .i64 0, .int .i64 0] 172))
 rw [show (w.alloc (.cells #[pv] 224)).heap.size = w.heap.size + 1 by simp] at A1
 have hu := Tryz.underlying172
 cases h with
 | no =>
  clear bW
  go_enter Tryz.func219, Tryz.ntmps219
  go_upto_region 1 with (fail)
  generalize (w.alloc (.cells #[.pointer none] 224)).alloc (.cells #[.bool false, .int .i64 0, .int .i64 0] 172) = W1 at *
  have y0 := bx.cell ⟨_, A0.out⟩
  go_wp2_with (((with_reducible refine gate_ (.store 172 (.tmp 4) (.tmp 26)) rfl ?_); refine store_part rfl 172 (.tmp 4) (.tmp 26) rfl ((w.heap.size + 1)) 0 172 #[.bool false, .int .i64 0, .int .i64 0] [.bool false, .int .i64 0, .int .i64 0] rfl rfl A1.out (by simp) info_vote3 (by simp [Value.oneCell']) ?_; intro W2 HG_ KG_; have HG := am HG_; have KG := am KG_; clear HG_ KG_))
  exact bodyPost_ret (v := .agg #[.bool false, .int .i64 0, .int .i64 0]) (results_cell_row Tryz.results219 _ W2 _ _ _ _ _ rfl HG.out hu rfl info_vote3) rfl ⟨rfl, below_kp HB.out KG.out (by omega) HB.out.size⟩
 | yes f g v hg hr =>
  obtain ⟨A, m, hv, -⟩ := id hr
  subst hv
  have HR := am (hr.below bW)
  have HF := am (blk_below hg bW)
  have y1 := cells6 HF.out
  cases hk : (f.f0 == 3)
  ·have hk9 : ¬ f.f0 = 3 := by simpa using hk
   have hk2 : (f.f0 != 3) = true := by simpa using hk
   have e : otherV (some f) s = ⟨false, ⟨0, 0⟩⟩ := if_neg (fun e => hk9 e.1)
   rw [e]
   clear e bW hr hg hk9
   go_enter Tryz.func219, Tryz.ntmps219
   go_upto_region 1 with (fail)
   generalize (w.alloc (.cells #[.pointer (some ⟨g, 0, none⟩)] 224)).alloc (.cells #[.bool false, .int .i64 0, .int .i64 0] 172) = W1 at *
   have y0 := bx.cell ⟨_, A0.out⟩
   go_wp2_with (((with_reducible refine gate_ (.store 172 (.tmp 4) (.tmp 26)) rfl ?_); refine store_part rfl 172 (.tmp 4) (.tmp 26) rfl ((w.heap.size + 1)) 0 172 #[.bool false, .int .i64 0, .int .i64 0] [.bool false, .int .i64 0, .int .i64 0] rfl rfl A1.out (by simp) info_vote3 (by simp [Value.oneCell']) ?_; intro W2 HG_ KG_; have HG := am HG_; have KG := am KG_; clear HG_ KG_))
   exact bodyPost_ret (v := .agg #[.bool false, .int .i64 0, .int .i64 0]) (results_cell_row Tryz.results219 _ W2 _ _ _ _ _ rfl HG.out hu rfl info_vote3) rfl ⟨rfl, below_kp HB.out KG.out (by omega) HB.out.size⟩
  ·have hk9 : f.f0 = 3 := by simpa using hk
   have hk2 : (f.f0 != 3) = false := by simpa using hk
   by_cases hlt : s < f.f4.length
   ·have e : otherV (some f) s = ⟨true, f.f4.getD s ⟨0, 0⟩⟩ := if_pos ⟨hk9, hlt⟩
    rw [e]
    obtain ⟨ad, hA, c0, c1⟩ := item_at HR.out hlt
    subst hA
    obtain ⟨⟨ia, ib⟩, hit⟩ : ∃ it, it = f.f4.getD s (⟨0, 0⟩ : S55) := ⟨_, rfl⟩
    rw [← hit] at c0 c1 ⊢
    have q0 := eq_true (show ((s : Int) < (f.f4.length : Int)) by omega)
    have q1 := eq_false (show ¬ ((f.f4.length : Int) ≤ (s : Int)) by omega)
    clear e hr hg bW hit hlt hk9
    go_enter Tryz.func219, Tryz.ntmps219
    go_upto_region 1 with (fail)
    generalize (w.alloc (.cells #[.pointer (some ⟨g, 0, none⟩)] 224)).alloc (.cells #[.bool false, .int .i64 0, .int .i64 0] 172) = W1 at *
    have y0 := bx.cell ⟨_, A0.out⟩
    go_wp2_with (((with_reducible refine gate_ (.store 172 (.tmp 4) (.tmp 35)) rfl ?_); refine store_part rfl 172 (.tmp 4) (.tmp 35) rfl ((w.heap.size + 1)) 0 172 #[.bool true, .int .i64 ia, .int .i64 ib] [.bool false, .int .i64 0, .int .i64 0] rfl rfl A1.out (by simp) info_vote3 (by simp [Value.oneCell']) ?_; intro W2 HG_ KG_; have HG := am HG_; have KG := am KG_; clear HG_ KG_))
    exact bodyPost_ret (v := .agg #[.bool true, .int .i64 ia, .int .i64 ib]) (results_cell_row Tryz.results219 _ W2 _ _ _ _ _ rfl HG.out hu rfl info_vote3) rfl ⟨rfl, below_kp HB.out KG.out (by omega) HB.out.size⟩
   ·have e : otherV (some f) s = ⟨false, ⟨0, 0⟩⟩ := if_neg (fun e => hlt e.2)
    rw [e]
    have q1 := eq_true (show ((f.f4.length : Int) ≤ (s : Int)) by omega)
    clear e hr hg bW hlt hk9
    go_enter Tryz.func219, Tryz.ntmps219
    go_upto_region 1 with (fail)
    generalize (w.alloc (.cells #[.pointer (some ⟨g, 0, none⟩)] 224)).alloc (.cells #[.bool false, .int .i64 0, .int .i64 0] 172) = W1 at *
    have y0 := bx.cell ⟨_, A0.out⟩
    go_wp2_with (((with_reducible refine gate_ (.store 172 (.tmp 4) (.tmp 26)) rfl ?_); refine store_part rfl 172 (.tmp 4) (.tmp 26) rfl ((w.heap.size + 1)) 0 172 #[.bool false, .int .i64 0, .int .i64 0] [.bool false, .int .i64 0, .int .i64 0] rfl rfl A1.out (by simp) info_vote3 (by simp [Value.oneCell']) ?_; intro W2 HG_ KG_; have HG := am HG_; have KG := am KG_; clear HG_ KG_))
    exact bodyPost_ret (v := .agg #[.bool false, .int .i64 0, .int .i64 0]) (results_cell_row Tryz.results219 _ W2 _ _ _ _ _ rfl HG.out hu rfl info_vote3) rfl ⟨rfl, below_kp HB.out KG.out (by omega) HB.out.size⟩
end Go.Proofs.YtgcgglmmfgmaoaaGreat.PK
end
section
namespace Go.Proofs.YtgcgglmmfgmaoaaGreat.PK
open Go Go.RowKit Go.Proofs.YtgcgglmmfgmaoaaGreatW.PrintWords Go.Proofs.YtgcgglmmfgmaoaaGreatW.PrintLast Go.Proofs.YtgcgglmmfgmaoaaGreatW.PrintMore
attribute [local go_sem] max2_int min2_int max_two min_two
theorem net_voter_self (p : NtP) (ok0 : p.OK) (nb : Nat) (round : Int) (nz : List Nz) (sv cv : Value) (i : Nat) (hi : i < p.N) (w : World) (h : NB p w nb round nz sv cv) :
  Calls Tryz.prog 107 #[.pointer (some ⟨p.g, 0, none⟩), .int .i64 i, .int .i64 i] w fun e w' => e = .returned (.iface 222 (.agg #[(gz nz i).2.gv])) ∧ Below w.heap.size w w' := by
 have hl := h.hl
 have q0 : ((i : Int) < (p.N : Int)) = True := eq_true (by omega)
 have gg := h.gcells
 have nn := h.ncells i (by omega)
 have hat := h.at i (by omega)
 have hN : p.N ≤ 12 := by have := ok0.hc.n12; have := ok0.hN; omega
 obtain ⟨x, y, hz⟩ : ∃ x y, gz nz i = (x, y) := ⟨_, _, rfl⟩
 rw [hz] at nn hat ⊢
 simp only at nn ⊢
 obtain ⟨A1, m1, hv, -⟩ := hat.hg
 simp only at hv
 rw [hv] at nn ⊢
 clear h hi hz ok0 hl hat hv
 go_enter Tryz.func107, Tryz.ntmps107
 go_wp2
 go_ret
 exact ⟨rfl, Below.refl _ _⟩
theorem net_voter_other (p : NtP) (ok0 : p.OK) (nb : Nat) (round : Int) (nz : List Nz) (sv cv : Value) (l : List Sl) (hl : l.length = p.Q) (i k : Nat) (hi : i < p.N) (hk : k < p.Q) (hik : i ≠ k) (w : World) (h : NB p w nb round nz sv cv) (hst : StR p w sv l) :
  ∃ pv, PtR w (tookAt l k i) pv ∧ Calls Tryz.prog 107 #[.pointer (some ⟨p.g, 0, none⟩), .int .i64 i, .int .i64 k] w fun e w' => e = .returned (.iface 224 (.agg #[pv])) ∧ Below w.heap.size w w' := by
 have hsl : l[k]? = some (l[k]'(by omega)) := List.getElem?_eq_getElem (by omega)
 obtain ⟨sl, hsl9⟩ : ∃ sl, sl = l[k]'(by omega) := ⟨_, rfl⟩
 rw [← hsl9] at hsl
 have hta : tookAt l k i = sl.took.getD i none := by
  have e : l.getD k ⟨[], [], [], []⟩ = sl := by rw [List.getD_eq_getElem?_getD, hsl]; rfl
  unfold tookAt
  rw [e]
 obtain ⟨ad, m, x, hv, c0, c1, c2, c3, hSl⟩ := hst.at k sl hsl
 obtain ⟨tb, htb, hTk⟩ := hSl.took
 subst hv
 rw [htb] at c3
 have gg := h.gcells
 have q0 := eq_true (show ((k : Int) < (l.length : Int)) by omega)
 have q1 := eq_true (show ((i : Int) < (p.N : Int)) by omega)
 have q2 : ((i : Int) == (k : Int)) = false := beq_eq_false_iff_ne.2 (by omega)
 have hpt := hTk.at hi
 rw [hta, List.getD_eq_getElem?_getD]
 clear hta hl hi hk hst h hSl hTk htb c0 c1 c2 hsl hsl9 ok0
 rcases hpt with ⟨ht, hc⟩ | ⟨f, g, v, ht, hc, hg, hR⟩
 ·rw [ht]
  refine ⟨.pointer none, .no, ?_⟩
  clear ht hik
  go_enter Tryz.func107, Tryz.ntmps107
  go_wp2
  go_ret
  exact ⟨rfl, Below.refl _ _⟩
 ·rw [ht]
  refine ⟨_, .yes f g v hg hR, ?_⟩
  clear ht hg hR hik
  go_enter Tryz.func107, Tryz.ntmps107
  go_wp2
  go_ret
  exact ⟨rfl, Below.refl _ _⟩
theorem PtR.below {W W' : World} {o : Option S117} {pv : Value} (h : PtR W o pv) (hb : Below W.heap.size W W') : PtR W' o pv := by
 cases h with
 | no => exact .no
 | yes f g v hg hr => exact .yes f g v (blk_below hg hb) (hr.below hb)
def voteZ (nz : List Nz) (l : List Sl) (i s k : Nat) : S172 := if i = k then selfV (gz nz i).1.got s else otherV (tookAt l k i) s
def votesZ (p : NtP) (nz : List Nz) (l : List Sl) (i s : Nat) : List S172 := (p.c.voters s).map fun k => voteZ nz l i s k.toNat
def lineZ (p : NtP) (round : Int) (nz : List Nz) (l : List Sl) (i s : Nat) : S57 := ⟨round - 1, s, mostL (votesZ p nz l i s)⟩
def linesZ (p : NtP) (round : Int) (nz : List Nz) (l : List Sl) (i n : Nat) : List S57 := (List.range n).map (lineZ p round nz l i)
theorem linesZ_step (p : NtP) (round : Int) (nz : List Nz) (l : List Sl) (i n : Nat) : linesZ p round nz l i (n + 1) = linesZ p round nz l i n ++ [lineZ p round nz l i n] := by
 unfold linesZ
 rw [List.range_succ, List.map_append]; rfl
theorem info_vote9 : (Tryz.prog.info? 172).map (fun i => (i.zero, i.size, i.bytes)) = some (some (.agg #[.bool false, .int .i64 0, .int .i64 0]), 3, 24) := by kernel_rfl
theorem info_line9 : (Tryz.prog.info? 57).map (fun i => (i.zero, i.size, i.bytes)) = some (some (.agg #[.int .i64 0, .int .i64 0, .int .i64 0, .int .i64 0]), 4, 32) := by kernel_rfl
theorem voters_mem {c : Cf} (hc : c.OK) {s k : Int} (h : k ∈ c.voters s) : 0 ≤ k ∧ k < c.n := by
 unfold Cf.voters at h
 have h1 := (List.mem_filter.1 h).1
 obtain ⟨j, hj, rfl⟩ := List.mem_map.1 h1
 have := List.mem_range.1 hj
 have := hc.n6
 omega
theorem voters_len (c : Cf) (s : Int) : (c.voters s).length ≤ c.n.toNat := by
 unfold Cf.voters
 refine Nat.le_trans (List.length_filter_le _ _) ?_
 simp
theorem net_lines (p : NtP) (ok0 : p.OK) (nb : Nat) (round : Int) (hr0 : 0 ≤ round) (hr1 : round ≤ 1000) (nz : List Nz) (sv cv : Value) (l : List Sl) (hl : l.length = p.Q) (i : Nat) (hi : i < p.N) (w : World) (h : NB p w nb round nz sv cv) (hst : StR p w sv l) :
  Calls Tryz.prog 78 #[.pointer (some ⟨p.g, 0, none⟩), .int .i64 i] w fun e w' => ∃ v, e = .returned v ∧ Kd.R k57 57 w' w.heap.size (fun _ => True) v (linesZ p round nz l i p.Q) ∧ Below w.heap.size w w' := by
 have ok := am ok0
 have HH := am h
 have HS := am hst
 have hr := am (And.intro hr0 hr1)
 have hN12 := am (show p.N ≤ 12 ∧ p.c.n = p.N ∧ l.length = p.Q ∧ p.N ≤ p.Q ∧ i < p.N ∧ nz.length = p.N ∧ p.Q ≤ 15 ∧ p.c.slots = p.Q by
  have := ok0.hc.n12; have := ok0.hN; have := ok0.hQ; have := h.hl; have := slots_range ok0.hc
  unfold Cf.slots at *
  omega)
 have KS := am (fun W hW => slots_calls p.c ok0.hc p.A p.m W hW)
 have gg := h.gcells
 clear h hst hr0 hr1 hl hi ok0
 go_enter Tryz.func78, Tryz.ntmps78
 go_wp2_with (go_at_call 41; refine (KS.out _ HH.out.im.C).mono ?_; rintro e W1 ⟨rfl, hb⟩; have HB1 := am hb; clear hb gg KS)
 go_loopw [5, 15] (fun vo v w' => ∃ s : Nat, v = .int .i64 s ∧ s ≤ p.Q ∧ Aside0 (Kd.R k57 57 w' w.heap.size (fun _ => True) vo (linesZ p round nz l i s)) ∧ Aside0 (Below w.heap.size w w')) (fun _ v _ => p.Q - (intOf v).toNat)
 case atStart => exact ⟨0, rfl, Nat.zero_le _, ⟨Kd.R_nil _ _ _ _ _⟩, HB1⟩
 case round =>
  clear HB1
  obtain ⟨s, rfl, hs, hO0, hB0⟩ := hrel
  by_cases hlt : s < p.Q
  ·have HX := am (HH.out.below hB0.out)
   have HSX := am (HS.out.below hB0.out)
   have hlt9 := am hlt
   have gg := HX.out.gcells
   have q2 := eq_true (show ((s : Int) < p.c.slots) by have := hN12.out; omega)
   have KV := am (fun W hW => voters_calls p.c ok.out.hc s (by omega) (by have := hN12.out; omega) p.A p.m W hW)
   obtain ⟨vts, hvts⟩ : ∃ vts, vts = p.c.voters s := ⟨_, rfl⟩
   have HVT := am hvts
   rw [← hvts] at KV
   have hvtl := am (show vts.length ≤ 12 by rw [hvts]; exact Nat.le_trans (voters_len _ _) (by have := hN12.out; omega))
   have hvtm := am (show ∀ k ∈ vts, 0 ≤ k ∧ k < p.N by
    rw [hvts]
    intro k hk
    have := voters_mem ok.out.hc hk
    have := hN12.out
    omega)
   clear hvts hlt hs
   go_wp2_with (go_at_call 106; refine (KV.out _ HX.out.im.C).mono ?_; rintro e W3 ⟨v3, rfl, hR, hb⟩; obtain ⟨A3, c3, rfl⟩ := Kd.R_slice hR; have HVR := am (RdT.of_R hR); have n1 := am (HX.out.below hb); have n2 := am (HSX.out.below hb); have n3 := am (Kd.R_below hO0.out hb); have n4 := am (b_tr hB0.out hb); clear HX HSX hO0 hB0 hR hb gg KV; have HX := n1; have HSX := n2; have HO := n3; have HB := n4; clear n1 n2 n3 n4)
   go_loopw [7, 25] (fun vl v w' => ∃ j : Nat, v = .int .i64 j ∧ j ≤ vts.length ∧ Aside0 (Kd.R k172 172 w' W3.heap.size (fun _ => True) vl ((vts.take j).map fun k => voteZ nz l i s k.toNat)) ∧ Aside0 (Below W3.heap.size W3 w')) (fun _ v _ => vts.length - (intOf v).toNat)
   case atStart => exact ⟨0, rfl, Nat.zero_le _, ⟨Kd.R_nil _ _ _ _ _⟩, ⟨Below.refl _ _⟩⟩
   case round =>
    obtain ⟨j, rfl, hj, hV0, hB3⟩ := hrel
    by_cases hjl : j < vts.length
    ·have HXW := am (HX.out.below hB3.out)
     have HSW := am (HSX.out.below hB3.out)
     have HB3 := hB3
     have hj9 := am hjl
     have HV := hV0
     obtain ⟨kI, hkI⟩ : ∃ kI, kI = vts[j] := ⟨_, rfl⟩
     have hm := hvtm.out kI (by rw [hkI]; exact List.getElem_mem hjl)
     obtain ⟨k, rfl⟩ := Int.eq_ofNat_of_zero_le hm.1
     have HST := am (show ((vts.take (j + 1)).map fun k => voteZ nz l i s k.toNat) = ((vts.take j).map fun k => voteZ nz l i s k.toNat) ++ [voteZ nz l i s k] by
      rw [List.take_succ_eq_append_getElem hjl, List.map_append, ← hkI]; rfl)
     have hvl := am (show ((vts.take j).map fun k => voteZ nz l i s k.toNat).length ≤ 12 by have := hvtl.out; simp; omega)
     obtain ⟨ad, hA⟩ := (HVR.out.below hB3.out).ad (by omega)
     subst hA
     have hcv : wr.cell? (ad.add j) = some (.int .i64 (rd vts j)) := (HVR.out.below hB3.out).int_cell j hjl
     have hrd : rd vts (j : Int) = (k : Int) := by unfold rd; rw [Int.toNat_natCast, List.getD_eq_getElem?_getD, List.getElem?_eq_getElem hjl, hkI]; rfl
     rw [hrd] at hcv
     have qj := eq_true (show ((j : Int) < (vts.length : Int)) by omega)
     have hkN := am (show k < p.N by omega)
     have hvl0 := hvtl.out
     obtain ⟨vl, hvle⟩ : ∃ vl, ((vts.take j).map fun k => voteZ nz l i s k.toNat) = vl := ⟨_, rfl⟩
     rw [hvle] at HST hvl HV
     obtain ⟨A6, c6, rfl⟩ := Kd.R_slice HV.out
     clear hkI hm hrd hvle hjl hj hV0 hB3
     have hj12 : j ≤ 12 := by have := hvtl.out; have := hj9.out; omega
     have hs9 := am (show s ≤ 100 by have := hN12.out; have := hlt9.out; omega)
     by_cases hik : i = k
     ·subst hik
      have hat := HXW.out.at i (by have := hN12.out; omega)
      obtain ⟨Ag, mg, hgv, -⟩ := id hat.hg
      have hgR := hat.hg
      rw [hgv] at hgR
      have hgl : (gz nz i).1.got.length ≤ 100 := by
       have := hN12.out
       rcases hat.hgn with ⟨e, -⟩ | e
       ·rw [e]; simp
       ·omega
      have KVo := am (net_voter_self p ok.out nb round nz sv cv i hkN.out wr HXW.out)
      rw [hgv] at KVo
      have HGR := am hgR
      have hv : voteZ nz l i s i = selfV (gz nz i).1.got s := if_pos rfl
      rw [hv] at HST
      have KVt := am (fun W hW => self_vote Ag mg (gz nz i).1.got hgl s hs9.out W hW)
      unfold voteA at KVt
      generalize selfV (gz nz i).1.got s = x at *
      obtain ⟨xb, xa, xc⟩ := x
      generalize (gz nz i).1.got = got at *
      have hme : ∀ w, (method 420 222 (.agg #[.slice Ag got.length mg]) "plaiting/net.vote").run Tryz.prog w = .ok (218, .agg #[.slice Ag got.length mg]) w := fun _ => by kernel_rfl
      clear hat hgv hgR hgl hv
      go_wp2_with (first
       | (go_at_call 107; with_reducible refine KVo.out.mono ?_; rintro e W1 ⟨rfl, hb⟩; have H1 := am hb; clear hb)
       | (go_at_call 218; with_reducible refine (KVt.out W1 (HGR.out.below H1.out)).mono ?_; rintro e W2 ⟨rfl, hb⟩; have H2 := am (b_tr H1.out hb); clear hb)
       | ((with_reducible refine gate_builtin (b := .append) (xs := #[.tmp 29, .tmp 36]) rfl ?_); at_builtin; refine Kd.R_append k172 (w0 := W3) W3.heap.size rfl (.tmp 29) (.tmp 36) 170 172 (.agg #[.bool false, .int .i64 0, .int .i64 0]) 24 rfl Tryz.underlying170 info_vote9 rfl (by decide) (by omega) (.slice A6 vl.length c6) vl ⟨xb, ⟨xa, xc⟩⟩ [.bool xb, .int .i64 xa, .int .i64 xc] (fun _ => True) (fun _ => False) rfl rfl (k172_mkM _ _ _ _) (fun _ h => h.elim) (fun _ _ => trivial) (Kd.R_below HV.out H2.out) (b_base HB3.out H2.out) (by have := HB3.out.size; have := H2.out.size; omega) (by have := hvl.out; omega) ?_; intro v4 W4 ho hb hg_ hat_; have R4 := am ho; have B4 := am hb; obtain ⟨A4, c4, hv4⟩ := Kd.R_slice ho; subst hv4; clear ho hb hg_ hat_))
      go_roundw
      case rel => exact ⟨j + 1, by simp, hj9.out, ⟨by have h9 := R4.out; rw [List.length_append, List.length_singleton] at h9; rw [HST.out]; exact h9⟩, B4⟩
      case measure => have := hj9.out; simp [intOf]; omega
     ·obtain ⟨pv, hpt, hcall⟩ := net_voter_other p ok.out nb round nz sv cv l hN12.out.2.2.1 i k hN12.out.2.2.2.2.1 (by have := hN12.out; have := hkN.out; omega) hik wr HXW.out HSW.out
      have KVo := am hcall
      have HPT := am hpt
      have hv : voteZ nz l i s k = otherV (tookAt l k i) s := if_neg hik
      rw [hv] at HST
      have KVt := am (fun W hW => other_vote (tookAt l k i) pv s hs9.out W hW)
      unfold voteA at KVt
      generalize otherV (tookAt l k i) s = x at *
      obtain ⟨xb, xa, xc⟩ := x
      have hme : ∀ w, (method 420 224 (.agg #[pv]) "plaiting/net.vote").run Tryz.prog w = .ok (219, .agg #[pv]) w := fun _ => by kernel_rfl
      clear hcall hpt hv hik
      go_wp2_with (first
       | (go_at_call 107; with_reducible refine KVo.out.mono ?_; rintro e W1 ⟨rfl, hb⟩; have H1 := am hb; clear hb)
       | (go_at_call 219; with_reducible refine (KVt.out W1 (HPT.out.below H1.out)).mono ?_; rintro e W2 ⟨rfl, hb⟩; have H2 := am (b_tr H1.out hb); clear hb)
       | ((with_reducible refine gate_builtin (b := .append) (xs := #[.tmp 29, .tmp 36]) rfl ?_); at_builtin; refine Kd.R_append k172 (w0 := W3) W3.heap.size rfl (.tmp 29) (.tmp 36) 170 172 (.agg #[.bool false, .int .i64 0, .int .i64 0]) 24 rfl Tryz.underlying170 info_vote9 rfl (by decide) (by omega) (.slice A6 vl.length c6) vl ⟨xb, ⟨xa, xc⟩⟩ [.bool xb, .int .i64 xa, .int .i64 xc] (fun _ => True) (fun _ => False) rfl rfl (k172_mkM _ _ _ _) (fun _ h => h.elim) (fun _ _ => trivial) (Kd.R_below HV.out H2.out) (b_base HB3.out H2.out) (by have := HB3.out.size; have := H2.out.size; omega) (by have := hvl.out; omega) ?_; intro v4 W4 ho hb hg_ hat_; have R4 := am ho; have B4 := am hb; obtain ⟨A4, c4, hv4⟩ := Kd.R_slice ho; subst hv4; clear ho hb hg_ hat_))
      go_roundw
      case rel => exact ⟨j + 1, by simp, hj9.out, ⟨by have h9 := R4.out; rw [List.length_append, List.length_singleton] at h9; rw [HST.out]; exact h9⟩, B4⟩
      case measure => have := hj9.out; simp [intOf]; omega
    ·obtain rfl : j = vts.length := by omega
     have hall : ((vts.take vts.length).map fun k => voteZ nz l i s k.toNat) = votesZ p nz l i s := by rw [List.take_length, HVT.out]; rfl
     rw [hall] at hV0
     obtain ⟨A6, c6, rfl⟩ := Kd.R_slice hV0.out
     have HLC := am (Kd.R_reads' hV0.out).2.2
     have hvzl : (votesZ p nz l i s).length ≤ 1000 := by
      unfold votesZ
      rw [List.length_map, ← HVT.out]
      have := hvtl.out
      omega
     have KM := am (fun W hW => vote_Most (votesZ p nz l i s) A6 c6 hvzl W hW)
     have n1 := am (HX.out.below hB3.out)
     have n3 := am (Kd.R_below HO.out hB3.out)
     have n4 := am (b_base HB.out hB3.out)
     have hol := am (show (linesZ p round nz l i s).length ≤ 100 by unfold linesZ; have := hN12.out; have := hlt9.out; simp; omega)
     have HST := am (show linesZ p round nz l i (s + 1) = linesZ p round nz l i s ++ [⟨wrap64 (round - 1), s, mostL (votesZ p nz l i s)⟩] by
      rw [linesZ_step, w64_q _ (by have := hr.out; omega) (by have := hr.out; omega)]; rfl)
     clear HX HSX HO HB hall hvzl hj hjl hV0 hB3
     have HX := n1
     have HO := n3
     have HB := n4
     clear n1 n3 n4
     obtain ⟨⟨ra, rb⟩, hres⟩ : ∃ r, mostL (votesZ p nz l i s) = r := ⟨_, rfl⟩
     rw [hres] at KM HST
     obtain ⟨out, hout⟩ : ∃ out, linesZ p round nz l i s = out := ⟨_, rfl⟩
     rw [hout] at HST hol HO
     obtain ⟨A5, c5, rfl⟩ := Kd.R_slice HO.out
     have gg := HX.out.gcells
     have hs15 : s ≤ 15 := by have := hN12.out; have := hlt9.out; omega
     clear hres hout
     go_upto_region 11 with (fail)
     have HN := am (below_drew (Below.refl wr.heap.size wr))
     refine startB (n := 13) (F := fun _ => False) (ds := [11]) (by kernel_rfl) rfl (fun hHeld => ?_)
     refine plan_ [.p 0 39, .p 1 40, .p 2 41, .p 3 42, .t 4 43, .p 5 44, .p 6 45, .p 7 46] ?_
     repeat (first | refine jP ?_ | refine jW hHeld ?_ | refine jG ?_)
     refine planE ?_
     refine jO 8 (some 47) (fun K hK => ?_)
     refine kC Tryz.func108 #[.slice A6 (votesZ p nz l i s).length c6] ?_
     refine (KM.out _ (Kd.C_below HLC.out HN.out)).mono ?_
     rintro e Wn ⟨rfl, hb⟩
     replace HN := am (b_tr HN.out hb)
     clear hb
     refine ⟨_, rfl, ?_⟩
     refine hK.out _ _ (Kp.of HN.out) (fun hHeld => ?_)
     clear hK K
     refine jM 47 ?_
     refine plan_ [.p 9 48] ?_
     repeat (first | refine jP ?_ | refine jW hHeld ?_ | refine jG ?_)
     refine planE ?_
     refine jO 10 (some 49) (fun K hK => ?_)
     refine value_ (v := .slice (some ⟨Wn.heap.size, 0, none⟩) 1 1) (w1 := Wn.alloc (.cells #[.int .i64 (wrap64 (round - 1)), .int .i64 s, .int .i64 ra, .int .i64 rb] 57)) (by rfl) rfl (by go_simp; try rfl) ?_
     refine hK.out _ _ ((Kp.of HN.out).then_ (b_al _ _)) (fun hHeld => ?_)
     clear hK K
     refine jM 49 ?_
     refine jL 11 (some 50) (fun K hK => ?_)
     refine Kd.R_append_step k57 (w0 := w) (W := Wn) w.heap.size (by rfl) (.tmp 39) (.tmp 49) 47 57 (.agg #[.int .i64 0, .int .i64 0, .int .i64 0, .int .i64 0]) 32 rfl Tryz.underlying47 info_line9 rfl (by decide) (by omega) _ out ⟨wrap64 (round - 1), s, ⟨ra, rb⟩⟩ [.int .i64 (wrap64 (round - 1)), .int .i64 s, .int .i64 ra, .int .i64 rb] (fun _ => True) (fun _ => False) rfl rfl (k57_mkM _ _ _ _) (fun _ h => h.elim) (fun _ _ => trivial) (Kd.R_below HO.out HN.out) (b_tr HB.out HN.out) (by have := HN.out.size; have := HB.out.size; omega) (by have := hol.out; omega) ?_
     intro v4 W4 hR4 hB4 hg4 _
     have HB4 := am hB4
     have HR4 := am hR4
     clear hR4 hg4 hB4
     obtain ⟨A4, c4, rfl⟩ := Kd.R_slice HR4.out
     refine hK.out _ _ ?_
     clear hK K
     refine jM 50 ?_
     refine plan_ [.p 12 5] ?_
     repeat (first | refine jP ?_ | refine jW hHeld ?_ | refine jG ?_)
     refine planE ?_
     refine done_ (by kernel_rfl) ?_
     clear gg
     go_wp2
     go_roundw
     case rel => exact ⟨s + 1, by simp, hlt9.out, ⟨by have h9 := HR4.out; rw [List.length_append, List.length_singleton] at h9; rw [HST.out]; exact h9⟩, HB4⟩
     case measure => have := hlt9.out; simp [intOf]; omega
  ·obtain rfl : s = p.Q := by omega
   have q2 := eq_false (show ¬ ((p.Q : Int) < p.c.slots) by have := hN12.out; omega)
   clear hlt hs
   go_wp2
   go_ret
   exact ⟨_, rfl, hO0.out, hB0.out⟩
end Go.Proofs.YtgcgglmmfgmaoaaGreat.PK
end
section
namespace Go.Proofs.YtgcgglmmfgmaoaaGreat.PK
open Go Go.RowKit Go.Proofs.YtgcgglmmfgmaoaaGreatW.PrintWords Go.Proofs.YtgcgglmmfgmaoaaGreatW.PrintLast Go.Proofs.YtgcgglmmfgmaoaaGreatW.PrintMore
attribute [local go_sem] max2_int min2_int max_two min_two
theorem info_node7 : (Tryz.prog.info? 90).map (·.size) = some 7 := by kernel_rfl
theorem cells7 {W : World} {g T : Nat} {a b c d e f h : Value} (hh : W.heap[g]? = some (.cells #[a, b, c, d, e, f, h] T (0, 0))) : W.cell? ⟨g, 0, none⟩ = some a ∧ W.cell? ⟨g, 1, none⟩ = some b ∧ W.cell? ⟨g, 2, none⟩ = some c ∧ W.cell? ⟨g, 3, none⟩ = some d ∧ W.cell? ⟨g, 4, none⟩ = some e ∧ W.cell? ⟨g, 5, none⟩ = some f ∧ W.cell? ⟨g, 6, none⟩ = some h := ⟨(blk_cell hh 0).trans rfl, (blk_cell hh 1).trans rfl, (blk_cell hh 2).trans rfl, (blk_cell hh 3).trans rfl, (blk_cell hh 4).trans rfl, (blk_cell hh 5).trans rfl, (blk_cell hh 6).trans rfl⟩
def stepI (st nd : Int) (l : List S179) : Int := (sync_Step.f st nd l).getD 0
theorem mid_tot (l : List Int) (h : l.length ≤ 1000000) : ∃ r, mid_Mid.f l = some r := by
 unfold mid_Mid.f
 split
 ·exact ⟨_, rfl⟩
 ·rw [if_neg (by omega)]; exact ⟨_, rfl⟩
theorem stepI_eq (st nd : Int) (l : List S179) (h : l.length ≤ 1000) : sync_Step.f st nd l = some (stepI st nd l) := by
 have hd := dats_len l
 have : ∃ r, sync_Step.f st nd l = some r := by
  unfold sync_Step.f
  rw [if_neg (by omega)]
  split
  ·obtain ⟨r, hr⟩ := mid_tot (dats l ++ [0]) (by simp; omega)
   rw [hr]; exact ⟨_, rfl⟩
  ·split
   ·obtain ⟨r, hr⟩ := mid_tot (dats l) (by omega)
    rw [hr]; exact ⟨_, rfl⟩
   ·split
    ·exact ⟨_, rfl⟩
    ·split
     ·exact ⟨_, rfl⟩
     ·exact ⟨_, rfl⟩
 obtain ⟨r, hr⟩ := this
 unfold stepI
 rw [hr]; rfl
def endZ (p : NtP) (round : Int) (nz : List Nz) (l : List Sl) (i : Nat) : Nd :=
 if (gz nz i).1.st = 0 then { (gz nz i).1 with was := 0 } else
  { st := (nextSt p.c i (gz nz i).1.st (gz nz i).1.tm (heardZ p round nz l i p.N).length).1
    tm := (nextSt p.c i (gz nz i).1.st (gz nz i).1.tm (heardZ p round nz l i p.N).length).2
    was := (gz nz i).1.st
    ck := wrap64 ((gz nz i).1.ck + stepI (gz nz i).1.st i (heardZ p round nz l i p.N))
    qs := (gz nz i).1.qs
    got := (List.range p.Q).map (itemZ l i)
    log := if (gz nz i).1.st = 4 ∧ (gz nz i).1.was = 4 then (gz nz i).1.log ++ linesZ p round nz l i p.Q else (gz nz i).1.log }
def FO (x : Nz) (k : Nat) : Prop := some k = x.2.lv.ownBlock
def EdR (p : NtP) (x : Nz) (z : Nd) (w : World) (e : Ending) (w' : World) : Prop := ∃ y : NdA, e = .returned (.agg (z.cs p.Q y).toArray) ∧ NdH p w' (z, y) ∧ Kd.R k57 57 w' 0 (fun _ => True) y.lv z.log ∧ y.qb = x.2.qb ∧ (y.lv.ownBlock = x.2.lv.ownBlock ∨ ∃ b, y.lv.ownBlock = some b ∧ w.heap.size ≤ b) ∧ Kp (FO x) w w'
theorem NB.nrange {p : NtP} {W : World} {nb : Nat} {round : Int} {nz : List Nz} {sv cv : Value} (h : NB p W nb round nz sv cv) (i : Nat) (hi : i < nz.length) : W.rangeAt nb (i * 7) ((gz nz i).1.cs p.Q (gz nz i).2) := fun j u hj => by
 have hj7 : j < 7 := by
  have := (List.getElem?_eq_some_iff.1 hj).1
  simpa [Nd.cs] using this
 exact h.ncell i j u hi hj7 hj
theorem end_off (p : NtP) (ok0 : p.OK) (nb : Nat) (round : Int) (nz : List Nz) (sv cv : Value) (l : List Sl) (i : Nat) (hi : i < p.N) (w : World) (h : NB p w nb round nz sv cv) (hlog : Kd.R k57 57 w 0 (fun _ => True) (gz nz i).2.lv (gz nz i).1.log) (h0 : (gz nz i).1.st = 0) :
  Calls Tryz.prog 46 #[.pointer (some ⟨p.g, 0, none⟩), .int .i64 i] w (EdR p (gz nz i) (endZ p round nz l i) w) := by
 have hz : endZ p round nz l i = { (gz nz i).1 with was := 0 } := if_pos h0
 rw [hz]
 have hN : p.N ≤ 12 := by have := ok0.hc.n12; have := ok0.hN; omega
 have hl := h.hl
 have hil : i < nz.length := by omega
 have hat := h.at i hil
 have hnr := h.nrange i hil
 have b1 := b_al w (.cells #[.int .i64 0, .int .i64 0, .int .i64 0, .int .i64 0, .slice none 0 0, .slice none 0 0, .slice none 0 0] 90)
 have HH := am (h.below b1)
 have q0 : ((i : Int) < (p.N : Int)) = True := eq_true (by omega)
 obtain ⟨x, hx⟩ : ∃ x, x = gz nz i := ⟨_, rfl⟩
 rw [← hx] at h0 hat hnr hlog ⊢
 have HNR0 := am ((h.below b1).nrange i hil)
 rw [← hx] at HNR0
 obtain ⟨⟨st, tm, was, ck, qs, got, log⟩, ⟨qb, gv, lv⟩⟩ := x
 simp only at h0
 subst h0
 obtain ⟨Ag, mg, hgv, -⟩ := id hat.hg
 obtain ⟨Al, nl, ml, hlv⟩ := id hat.hl
 simp only at hgv hlv
 subst hgv
 subst hlv
 have HAT := am hat
 have HLG := am hlog
 have HNR := am (show (w.alloc (.cells #[.int .i64 0, .int .i64 0, .int .i64 0, .int .i64 0, .slice none 0 0, .slice none 0 0, .slice none 0 0] 90)).rangeAt nb (i * 7) [.int .i64 0, .int .i64 tm, .int .i64 was, .int .i64 ck, .slice (some ⟨qb, 0, none⟩) p.Q p.Q, .slice Ag got.length mg, .slice Al nl ml] from HNR0.out)
 have HB := am (b_tr b1 (b_al _ (.cells #[.int .i64 0, .int .i64 0, .int .i64 0, .int .i64 0, .slice none 0 0, .slice none 0 0, .slice none 0 0] 90)))
 have HX0 := am (blk_alloc (blk_new w (.cells #[.int .i64 0, .int .i64 0, .int .i64 0, .int .i64 0, .slice none 0 0, .slice none 0 0, .slice none 0 0] 90)) (.cells #[.int .i64 0, .int .i64 0, .int .i64 0, .int .i64 0, .slice none 0 0, .slice none 0 0, .slice none 0 0] 90))
 have HY0 := am (blk_new (w.alloc (.cells #[.int .i64 0, .int .i64 0, .int .i64 0, .int .i64 0, .slice none 0 0, .slice none 0 0, .slice none 0 0] 90)) (.cells #[.int .i64 0, .int .i64 0, .int .i64 0, .int .i64 0, .slice none 0 0, .slice none 0 0, .slice none 0 0] 90))
 rw [show (w.alloc (.cells #[.int .i64 0, .int .i64 0, .int .i64 0, .int .i64 0, .slice none 0 0, .slice none 0 0, .slice none 0 0] 90)).heap.size = w.heap.size + 1 by simp] at HY0
 have gg := HH.out.gcells
 clear h hi ok0 hl hil hat hnr hlog b1 hz HNR0 hx
 have hu := Tryz.underlying90
 go_enter Tryz.func46, Tryz.ntmps46
 go_upto_region 2 with (first | ((with_reducible refine gate_ (.load 90 (.tmp 14)) rfl ?_); refine wpList_load_mid rfl 90 (.tmp 14) rfl nb (i * 7) ?ha _ _ HNR.out Tryz.underlying90 rfl info_node7 ?_; (case ha => first | rfl | (simp; done))) | ((with_reducible refine gate_ (.store 90 (.tmp 5) (.tmp 15)) rfl ?_); refine store_part rfl 90 (.tmp 5) (.tmp 15) rfl ((w.heap.size + 1)) 0 90 #[.int .i64 0, .int .i64 (tm), .int .i64 (was), .int .i64 (ck), .slice (some ⟨qb, 0, none⟩) p.Q p.Q, .slice Ag got.length mg, .slice Al nl ml] [.int .i64 0, .int .i64 0, .int .i64 0, .int .i64 0, .slice none 0 0, .slice none 0 0, .slice none 0 0] rfl rfl HY0.out (by simp) info_node7 (by simp [Value.oneCell']) ?_; intro W2 HG_ KG_; have HG := am HG_; have KG := am KG_; clear HG_ KG_))
 have HY := am (show W2.heap[w.heap.size + 1]? = some (.cells #[.int .i64 0, .int .i64 tm, .int .i64 was, .int .i64 ck, .slice (some ⟨qb, 0, none⟩) p.Q p.Q, .slice Ag got.length mg, .slice Al nl ml] 90 (0, 0)) from HG.out)
 have HX := am (KG.out.blk HX0.out (fun e => by omega))
 have HBW := am (below_kp HB.out KG.out (show w.heap.size ≤ w.heap.size + 1 by omega) HB.out.size)
 have hY := cells7 HY.out
 have hYf := blk_frozen HY.out 2
 clear HG KG HY0 HX0 HB HNR gg
 go_upto_region 5 with (fail)
 have HY3 := am (blk_put HY.out 2 (.int .i64 0) (cs' := #[.int .i64 0, .int .i64 tm, .int .i64 0, .int .i64 ck, .slice (some ⟨qb, 0, none⟩) p.Q p.Q, .slice Ag got.length mg, .slice Al nl ml]) rfl)
 have HX3 := am (((Kp.refl (fun k => k = w.heap.size + 1) W2).set_ (p := ⟨w.heap.size + 1, 2, none⟩) (.inl rfl) (.int .i64 0)).blk HX.out (fun e => by omega))
 have HB3 := am (HBW.out.setCell (p := ⟨w.heap.size + 1, 2, none⟩) (show w.heap.size ≤ w.heap.size + 1 by omega) (.int .i64 0))
 clear HY HX HBW hY hYf
 generalize W2.setCell ⟨w.heap.size + 1, 2, none⟩ (.int .i64 0) = W3 at *
 go_wp2_with (first | ((with_reducible refine gate_ (.load 90 (.tmp 5)) rfl ?_); refine wpList_load_row rfl 90 (.tmp 5) rfl (w.heap.size + 1) rfl _ _ _ _ HY3.out Tryz.underlying90 rfl info_node7 ?_) | ((with_reducible refine gate_ (.store 90 (.tmp 4) (.tmp 22)) rfl ?_); refine store_part rfl 90 (.tmp 4) (.tmp 22) rfl (w.heap.size) 0 90 #[.int .i64 0, .int .i64 tm, .int .i64 0, .int .i64 ck, .slice (some ⟨qb, 0, none⟩) p.Q p.Q, .slice Ag got.length mg, .slice Al nl ml] [.int .i64 0, .int .i64 0, .int .i64 0, .int .i64 0, .slice none 0 0, .slice none 0 0, .slice none 0 0] rfl rfl HX3.out (by simp) info_node7 (by simp [Value.oneCell']) ?_; intro W4 HG4_ KG4_; have HG4 := am HG4_; have KG4 := am KG4_; clear HG4_ KG4_))
 exact bodyPost_ret (v := .agg #[.int .i64 0, .int .i64 tm, .int .i64 0, .int .i64 ck, .slice (some ⟨qb, 0, none⟩) p.Q p.Q, .slice Ag got.length mg, .slice Al nl ml]) (results_cell_row Tryz.results46 _ W4 _ _ _ _ _ rfl HG4.out hu rfl info_node7) rfl (by
  have HB4 := below_kp HB3.out KG4.out (Nat.le_refl _) HB3.out.size
  have h1 := HAT.out.below HB4
  exact ⟨⟨qb, .slice Ag got.length mg, .slice Al nl ml⟩, rfl, ⟨h1.hq, h1.hqn, h1.hqa, h1.hg, h1.hgn, h1.hl⟩, Kd.R_below HLG.out HB4, rfl, .inl rfl, Kp.of HB4⟩)
theorem itV_len : ∀ l : List S55, (itV l).length = l.length * 2
 | [] => rfl
 | x :: r => by rw [itV, List.length_cons, List.length_cons, itV_len r, List.length_cons]; omega
theorem itV_put : ∀ (l : List S55) (s : Nat) (x : S55), s < l.length → overAt (itV l) (s * 2) [.int .i64 x.f0, .int .i64 x.f1] = itV (l.set s x)
 | [], s, x, h => by simp at h
 | y :: r, 0, x, _ => rfl
 | y :: r, s + 1, x, h => by
  have ih := itV_put r s x (by simpa using h)
  show _ = Value.int .i64 y.f0 :: Value.int .i64 y.f1 :: itV (r.set s x)
  rw [← ih]
  unfold overAt
  rw [show (s + 1) * 2 = s * 2 + 2 by omega, itV]
  rfl
def fillG (l : List S55) (k N : Nat) : List S55 := l.take k ++ List.replicate (N - k) ⟨0, 0⟩
theorem fillG_len {l : List S55} {k N : Nat} (h : l.length = N) (hk : k ≤ N) : (fillG l k N).length = N := by unfold fillG; simp; omega
theorem fillG_step {l : List S55} {k N : Nat} (h : l.length = N) (hk : k < N) : (fillG l k N).set k (l[k]'(by omega)) = fillG l (k + 1) N := by
 unfold fillG
 rw [List.set_append_right _ _ (by simp; omega), show N - k = (N - (k + 1)) + 1 by omega, List.replicate_succ, List.take_succ_eq_append_getElem (by omega), List.append_assoc]
 congr 1
 rw [show k - (l.take k).length = 0 by simp; omega, List.set_cons_zero]
 rfl
structure EI (w : World) (FX : Nat → Prop) (xb yb : Nat) (Y : Array Value) (v : Value) (log : List S57) (W : World) : Prop where
 k : Kp FX w W
 x : W.heap[xb]? = some (.cells #[.int .i64 0, .int .i64 0, .int .i64 0, .int .i64 0, .slice none 0 0, .slice none 0 0, .slice none 0 0] 90 (0, 0))
 y : W.heap[yb]? = some (.cells Y 90 (0, 0))
 r : Kd.R k57 57 W 0 (fun _ => True) v log
 hy : w.heap.size ≤ yb
 hxy : xb ≠ yb
theorem EI.below {w : World} {FX : Nat → Prop} {xb yb : Nat} {Y : Array Value} {v : Value} {log : List S57} {W W' : World} (h : EI w FX xb yb Y v log W) (hb : Below W.heap.size W W') : EI w FX xb yb Y v log W' :=
 ⟨h.k.then_ hb, blk_below h.x hb, blk_below h.y hb, Kd.R_below h.r hb, h.hy, h.hxy⟩
theorem EI.sety {w : World} {FX : Nat → Prop} {xb yb : Nat} {Y Y' : Array Value} {v : Value} {log : List S57} {W : World} (h : EI w FX xb yb Y v log W) (j : Nat) (u : Value) (e : Y.setIfInBounds j u = Y') : EI w FX xb yb Y' v log (W.setCell ⟨yb, j, none⟩ u) := by
 have k1 := (Kp.refl (fun k => k = yb) W).set_ (p := ⟨yb, j, none⟩) (.inl rfl) u
 exact ⟨h.k.set_ (.inr h.hy) u, k1.blk h.x h.hxy, blk_put h.y j u e, line_keep h.r (fun g hg => by
  obtain ⟨cells, hc⟩ := Kd.R_typed h.r g hg
  exact k1.block g (blk_lt hc) (fun e => ne_of_types hc h.y (by decide) e)), h.hy, h.hxy⟩
theorem EI.other {w : World} {FX : Nat → Prop} {xb yb gb : Nat} {Y GA : Array Value} {v : Value} {log : List S57} {W W' : World} (h : EI w FX xb yb Y v log W) (hg : W.heap[gb]? = some (.cells GA 55 (0, 0))) (hgb : w.heap.size ≤ gb) (k1 : Kp (fun k => k = gb) W W') : EI w FX xb yb Y v log W' :=
 ⟨⟨k1.os.trans h.k.os, k1.tape.trans h.k.tape, k1.output.trans h.k.output, Nat.le_trans h.k.size k1.size, fun i hi hn => (k1.block i (Nat.lt_of_lt_of_le hi h.k.size) (fun e => by omega)).trans (h.k.block i hi hn)⟩,
  k1.blk h.x (fun e => ne_of_types h.x hg (by decide) e), k1.blk h.y (fun e => ne_of_types h.y hg (by decide) e), line_keep h.r (fun g hgg => by
  obtain ⟨cells, hc⟩ := Kd.R_typed h.r g hgg
  exact k1.block g (blk_lt hc) (fun e => ne_of_types hc hg (by decide) e)), h.hy, h.hxy⟩
theorem EI.app {w : World} {FX : Nat → Prop} {xb yb : Nat} {Y : Array Value} {v v' : Value} {log log' : List S57} {W W' : World} (h : EI w FX xb yb Y v log W) (hny : ¬ some yb = v.ownBlock) (hnx : ¬ some xb = v.ownBlock) (hg : W.grownBy W' v.ownBlock) (hF : ∀ k, v.ownBlock = some k → FX k) (hr : Kd.R k57 57 W' 0 (fun _ => True) v' log') : EI w FX xb yb Y v' log' W' :=
 ⟨h.k.grown hg (fun k e => .inl (hF k e)), (hg.block _ (blk_lt h.x) hnx).trans h.x, (hg.block _ (blk_lt h.y) hny).trans h.y, hr, h.hy, h.hxy⟩
theorem end_on (p : NtP) (ok0 : p.OK) (nb : Nat) (round : Int) (hr0 : 0 ≤ round) (hr1 : round ≤ 1000) (nz : List Nz) (sv cv : Value) (l : List Sl) (hll : l.length = p.Q) (i : Nat) (hi : i < p.N) (w : World) (h : NB p w nb round nz sv cv) (hst : StR p w sv l) (hlog : Kd.R k57 57 w 0 (fun _ => True) (gz nz i).2.lv (gz nz i).1.log) (htm : 0 ≤ (gz nz i).1.tm ∧ (gz nz i).1.tm ≤ 1000) (hlg : (gz nz i).1.log.length ≤ 100000) (h0 : (gz nz i).1.st ≠ 0) :
  Calls Tryz.prog 46 #[.pointer (some ⟨p.g, 0, none⟩), .int .i64 i] w (EdR p (gz nz i) (endZ p round nz l i) w) := by
 have hz : endZ p round nz l i = _ := if_neg h0
 have hN12 := am (show p.N ≤ 12 ∧ p.Q ≤ 15 ∧ p.c.slots = p.Q by have := ok0.hc.n12; have := ok0.hN; have := slots_range ok0.hc; have := ok0.hQ; omega)
 have hl := h.hl
 have hil : i < nz.length := by omega
 have hat := h.at i hil
 have b1 := b_al w (.cells #[.int .i64 0, .int .i64 0, .int .i64 0, .int .i64 0, .slice none 0 0, .slice none 0 0, .slice none 0 0] 90)
 have q0 : ((i : Int) < (p.N : Int)) = True := eq_true (by omega)
 have HNR0 := am ((h.below b1).nrange i hil)
 have hFO : ∀ k, FO (gz nz i) k → ∃ cells, w.heap[k]? = some (.cells cells 57 (0, 0)) := fun k hk => Kd.R_typed hlog k hk.symm
 have NBa := am (fun W (hk : Kp (FO (gz nz i)) w W) => h.other hk (fun k hf => by
  obtain ⟨cells, hc⟩ := hFO k hf
  exact ⟨cells, _, hc, by simp [OT]⟩))
 have StA := am (fun W (hk : Kp (FO (gz nz i)) w W) => hst.keep hk (fun k cells T hf hc => by
  obtain ⟨c2, hc2⟩ := hFO k hf
  rw [hc] at hc2
  simp only [Option.some.injEq, Obj.cells.injEq] at hc2
  obtain ⟨-, rfl, -⟩ := hc2
  decide))
 have KL := am (fun W (hk : Kp (FO (gz nz i)) w W) => net_lines p ok0 nb round hr0 hr1 nz sv cv l hll i hi W (NBa.out W hk) (StA.out W hk))
 have KI := am (fun s (hs : s < p.Q) W (hk : Kp (FO (gz nz i)) w W) => net_item p ok0 nb round nz sv cv l hll i s hi hs W (NBa.out W hk) (StA.out W hk))
 have KH := am (fun W (hk : Kp (FO (gz nz i)) w W) => net_heard p ok0 nb round hr0 hr1 nz sv cv l hll i hi W (NBa.out W hk) (StA.out W hk))
 have KS := am (fun W hW => slots_calls p.c ok0.hc p.A p.m W hW)
 have hlz := am (show (linesZ p round nz l i p.Q).length ≤ 15 by unfold linesZ; have := hN12.out; simp; omega)
 have hdl := heardZ_len p round nz l i p.N
 have hdl0 : (heardZ p round nz l i p.N).length ≤ 12 := by have := hN12.out; omega
 have HGL := am (show ((List.range p.Q).map (itemZ l i)).length = p.Q by simp)
 have HGA := am (show ∀ s (hs : s < p.Q), ((List.range p.Q).map (itemZ l i))[s]'(by simpa using hs) = itemZ l i s from fun s hs => by simp)
 have KT0 := fun (Ah : Option Addr) (ch : Nat) (hc : (heardZ p round nz l i p.N).length ≤ ch) W hW => sync_Step.calls (gz nz i).1.st i Ah ch (heardZ p round nz l i p.N) _ W hW hc (stepI_eq _ _ _ (by omega))
 have KN0 := fun W hW => next_calls p.c ok0.hc i (gz nz i).1.st (gz nz i).1.tm (heardZ p round nz l i p.N).length (by omega) (by have := hN12.out; omega) htm.1 (by have := htm.2; omega) (by omega) (by omega) p.A p.m W hW
 generalize linesZ p round nz l i p.Q = lz at *
 generalize heardZ p round nz l i p.N = hd at *
 obtain ⟨G, hG⟩ : ∃ G, G = (List.range p.Q).map (itemZ l i) := ⟨_, rfl⟩
 have HGI := am (show ∀ s, s < p.Q → G[s]? = some (itemZ l i s) from fun s hs => by rw [hG]; simp [hs])
 rw [← hG] at hz HGL
 clear hG HGA
 obtain ⟨x, hx⟩ : ∃ x, x = gz nz i := ⟨_, rfl⟩
 rw [← hx] at hz h0 hat hlog HNR0 NBa StA KL KI KH KT0 KN0 hFO hlg htm ⊢
 obtain ⟨⟨st, tm, was, ck, qs, got, log⟩, ⟨qb, gv, lv⟩⟩ := x
 simp only at hz h0 hlg htm KT0 KN0
 rw [hz]
 obtain ⟨⟨n1, n2⟩, hnn⟩ : ∃ n, nextSt p.c i st tm hd.length = n := ⟨_, rfl⟩
 obtain ⟨sp, hsp⟩ : ∃ sp, stepI st i hd = sp := ⟨_, rfl⟩
 rw [hnn] at KN0 ⊢
 rw [hsp] at KT0 ⊢
 simp only at KN0 ⊢
 obtain ⟨log1, hlog1⟩ : ∃ log1, (if st = 4 ∧ was = 4 then log ++ lz else log) = log1 := ⟨_, rfl⟩
 rw [hlog1]
 have HLOG1 := am hlog1.symm
 clear hlog1
 have KN := am KN0
 have KT1 := am KT0
 have hdl9 := am hdl0
 have HTM := am htm
 clear KN0 KT0 hnn hsp hdl hdl0 htm
 obtain ⟨Ag, mg, hgv, -⟩ := id hat.hg
 obtain ⟨Al, nl, ml, hlv⟩ := id hat.hl
 simp only at hgv hlv
 subst hgv
 subst hlv
 have HAT := am hat
 have hlg := am hlg
 have hown := am (show ∀ g, (Value.slice Al nl ml).ownBlock = some g → g < w.heap.size from fun g hg => by
  obtain ⟨cells, hc⟩ := Kd.R_typed hlog g hg
  exact blk_lt hc)
 have HFOt := am hFO
 generalize hFX : FO ((⟨st, tm, was, ck, qs, got, log⟩, ⟨qb, .slice Ag got.length mg, .slice Al nl ml⟩) : Nz) = FX at *
 have HFXE := am (show ∀ k, (Value.slice Al nl ml).ownBlock = some k → FX k from fun k e => by rw [← hFX]; exact e.symm)
 have HNR := am (show (w.alloc (.cells #[.int .i64 0, .int .i64 0, .int .i64 0, .int .i64 0, .slice none 0 0, .slice none 0 0, .slice none 0 0] 90)).rangeAt nb (i * 7) [.int .i64 st, .int .i64 tm, .int .i64 was, .int .i64 ck, .slice (some ⟨qb, 0, none⟩) p.Q p.Q, .slice Ag got.length mg, .slice Al nl ml] from HNR0.out)
 have HB := am (b_tr b1 (b_al _ (.cells #[.int .i64 0, .int .i64 0, .int .i64 0, .int .i64 0, .slice none 0 0, .slice none 0 0, .slice none 0 0] 90)))
 have HX0 := am (blk_alloc (blk_new w (.cells #[.int .i64 0, .int .i64 0, .int .i64 0, .int .i64 0, .slice none 0 0, .slice none 0 0, .slice none 0 0] 90)) (.cells #[.int .i64 0, .int .i64 0, .int .i64 0, .int .i64 0, .slice none 0 0, .slice none 0 0, .slice none 0 0] 90))
 have HY0 := am (blk_new (w.alloc (.cells #[.int .i64 0, .int .i64 0, .int .i64 0, .int .i64 0, .slice none 0 0, .slice none 0 0, .slice none 0 0] 90)) (.cells #[.int .i64 0, .int .i64 0, .int .i64 0, .int .i64 0, .slice none 0 0, .slice none 0 0, .slice none 0 0] 90))
 rw [show (w.alloc (.cells #[.int .i64 0, .int .i64 0, .int .i64 0, .int .i64 0, .slice none 0 0, .slice none 0 0, .slice none 0 0] 90)).heap.size = w.heap.size + 1 by simp] at HY0
 have HLG0 := am hlog
 have gg := (h.below b1).gcells
 have hs0 : (st == 0) = false := beq_eq_false_iff_ne.2 h0
 clear h hst hi ok0 hl hil hat hlog b1 HNR0 hx h0 hz hFO hr0 hr1 hll
 have hu := Tryz.underlying90
 go_enter Tryz.func46, Tryz.ntmps46
 go_upto_region 2 with (first | ((with_reducible refine gate_ (.load 90 (.tmp 14)) rfl ?_); refine wpList_load_mid rfl 90 (.tmp 14) rfl nb (i * 7) ?ha _ _ HNR.out Tryz.underlying90 rfl info_node7 ?_; (case ha => first | rfl | (simp; done))) | ((with_reducible refine gate_ (.store 90 (.tmp 5) (.tmp 15)) rfl ?_); refine store_part rfl 90 (.tmp 5) (.tmp 15) rfl ((w.heap.size + 1)) 0 90 #[.int .i64 st, .int .i64 tm, .int .i64 was, .int .i64 ck, .slice (some ⟨qb, 0, none⟩) p.Q p.Q, .slice Ag got.length mg, .slice Al nl ml] [.int .i64 0, .int .i64 0, .int .i64 0, .int .i64 0, .slice none 0 0, .slice none 0 0, .slice none 0 0] rfl rfl HY0.out (by simp) info_node7 (by simp [Value.oneCell']) ?_; intro W2 HG_ KG_; have HG := am HG_; have KG := am KG_; clear HG_ KG_))
 have HE := am (show EI w FX w.heap.size (w.heap.size + 1) #[.int .i64 st, .int .i64 tm, .int .i64 was, .int .i64 ck, .slice (some ⟨qb, 0, none⟩) p.Q p.Q, .slice Ag got.length mg, .slice Al nl ml] (.slice Al nl ml) log W2 from by
  have HBW := below_kp HB.out KG.out (show w.heap.size ≤ w.heap.size + 1 by omega) HB.out.size
  exact ⟨Kp.of HBW, KG.out.blk HX0.out (fun e => by omega), HG.out, Kd.R_below HLG0.out HBW, by omega, by omega⟩)
 obtain ⟨yb, hyb⟩ : ∃ yb, yb = w.heap.size + 1 := ⟨_, rfl⟩
 obtain ⟨xb, hxb⟩ : ∃ xb, xb = w.heap.size := ⟨_, rfl⟩
 have hny := am (show ¬ some yb = (Value.slice Al nl ml).ownBlock from fun e => by have := hown.out yb e.symm; omega)
 have hnx := am (show ¬ some xb = (Value.slice Al nl ml).ownBlock from fun e => by have := hown.out xb e.symm; omega)
 have hxw := am (show w.heap.size ≤ xb by omega)
 rw [← hyb] at HE ⊢
 have hxb9 := am hxb
 rw [show w.heap.size = xb from hxb.symm] at HE
 have hrx : (Value.pointer (some ⟨w.heap.size, 0, none⟩)) = .pointer (some ⟨xb, 0, none⟩) := by rw [hxb]
 rw [hrx]
 clear HG KG HX0 HY0 HB HNR gg hyb hxb hrx HLG0
 have y0 := (blk_cell HE.out.y 0).trans rfl
 have y2 := (blk_cell HE.out.y 2).trans rfl
 go_upto_region 6 with (fail)
 clear y0
 obtain ⟨bb, hbb⟩ : ∃ bb : Bool, bb = decide (st = 4 ∧ was = 4) := ⟨_, rfl⟩
 have HBB := am hbb
 have h3b : (st == 4) = false ∨ ((st == 4) = true ∧ (was == 4) = false) ∨ ((st == 4) = true ∧ (was == 4) = true) := by
  cases (st == 4) <;> cases (was == 4) <;> simp
 clear hbb
 go_cut [29] (fun v29 wc => v29 = .bool bb ∧ Aside0 (wc = W2))
 case first =>
  rcases h3b with b1 | ⟨b1, b2⟩ | ⟨b1, b2⟩
  ·have hb0 : bb = false := by
    rw [HBB.out]; exact decide_eq_false (fun e => by simp [e.1] at b1)
   subst hb0
   clear HBB
   go_wp2
   go_meet
   case rel => exact ⟨rfl, ⟨rfl⟩⟩
  ·have hb0 : bb = false := by
    rw [HBB.out]; exact decide_eq_false (fun e => by simp [e.2] at b2)
   subst hb0
   clear HBB
   go_wp2
   go_meet
   case rel => exact ⟨rfl, ⟨rfl⟩⟩
  ·have hb0 : bb = true := by
    rw [HBB.out]; exact decide_eq_true ⟨by simpa using b1, by simpa using b2⟩
   subst hb0
   clear HBB
   go_wp2
   go_meet
   case rel => exact ⟨rfl, ⟨rfl⟩⟩
 case rest =>
  obtain ⟨rfl, ⟨rfl⟩⟩ := hcut
  clear y2 h3b
  obtain ⟨W2, hW2⟩ : ∃ W, W = wc := ⟨_, rfl⟩
  subst hW2
  go_upto_if 29 with (fail)
  go_cut [] (fun wc => Aside0 (∃ (A8 : Option Addr) (c8 : Nat), EI w FX xb yb #[.int .i64 st, .int .i64 tm, .int .i64 was, .int .i64 ck, .slice (some ⟨qb, 0, none⟩) p.Q p.Q, .slice Ag got.length mg, (.slice A8 log1.length c8)] (.slice A8 log1.length c8) log1 wc ∧ ((Value.slice A8 log1.length c8).ownBlock = (Value.slice Al nl ml).ownBlock ∨ ∃ b, (Value.slice A8 log1.length c8).ownBlock = some b ∧ w.heap.size ≤ b)))
  case first =>
   cases bb
   ·have hno : log1 = log := by rw [HLOG1.out, if_neg (by have := HBB.out; simpa using this.symm)]
    subst hno
    clear HLOG1
    go_wp2
    go_meet
    case rel =>
     obtain ⟨A8, c8, e8⟩ := Kd.R_slice HE.out.r
     have hE := HE.out
     rw [e8] at hE ⊢
     exact ⟨A8, c8, hE, .inl rfl⟩
   ·have hyes : log1 = log ++ lz := by rw [HLOG1.out, if_pos (by have := HBB.out; simpa using this.symm)]
    have HYES := am hyes
    obtain ⟨A9, c9, e9⟩ := Kd.R_slice HE.out.r
    rw [e9] at *
    have y6 := (blk_cell HE.out.y 6).trans rfl
    clear hyes HLOG1 HBB
    go_wp2
    have HN := am (below_drew (Below.refl W2.heap.size W2))
    refine startB (n := 8) (F := fun _ => False) (ds := [5, 7]) (by kernel_rfl) rfl (fun hHeld => ?_)
    refine plan_ [.p 0 30, .t 1 31, .p 2 32, .p 3 33] ?_
    repeat (first | refine jP ?_ | refine jW hHeld ?_ | refine jG ?_)
    refine planE ?_
    refine jO 4 (some 34) (fun K hK => ?_)
    refine kC Tryz.func78 #[.pointer (some ⟨p.g, 0, none⟩), .int .i64 i] ?_
    refine (KL.out _ (HE.out.k.then_ HN.out)).mono ?_
    rintro e Wn ⟨v, rfl, hR, hb⟩
    have HR0 := am (RdT.of_R hR)
    obtain ⟨An, cn, rfl⟩ := Kd.R_slice hR
    replace HN := am (b_tr HN.out hb)
    clear hb
    refine ⟨_, rfl, ?_⟩
    refine hK.out _ _ (Kp.of HN.out) (fun hHeld => ?_)
    clear hK K
    refine jM 34 ?_
    refine jL 5 (some 35) (fun K hK => ?_)
    refine Kd.R_append_rows_step k57 (w0 := w) (W := Wn) 0 (by rfl) (.tmp 31) (.tmp 34) 47 57 (.agg #[.int .i64 0, .int .i64 0, .int .i64 0, .int .i64 0]) 32 rfl Tryz.underlying47 info_line9 rfl (by decide) (by omega) (.slice Al nl ml) log lz An lz.length cn (fun _ => True) (fun _ => False) rfl rfl (HE.out.below HN.out).r HR0.out.C.1 (fun x cs hx => by obtain rfl := k57_open hx; exact k57_mkM _ _ _ x) (fun _ h => h.elim) (fun _ _ => trivial) ((HE.out.below HN.out).k.below (Nat.zero_le _) (fun i hi => absurd hi (Nat.not_lt_zero i))) (Nat.zero_le _) (by have := hlz.out; have := hlg.out; omega) ?_
    intro v4 W4 hR4 hB4 hg4 hat4
    have HAT4 := am hat4
    have HBS := am HN.out.size
    obtain ⟨A4, c4, hv4⟩ := Kd.R_slice hR4
    subst hv4
    have HE4 := am ((HE.out.below HN.out).app hny.out hnx.out hg4 HFXE.out hR4)
    clear hR4 hB4 hg4 hat4
    refine hK.out _ _ ?_
    clear hK K
    refine jM 35 ?_
    refine plan_ [.p 6 36] ?_
    repeat (first | refine jP ?_ | refine jW hHeld ?_ | refine jG ?_)
    refine planE ?_
    refine jL 7 none (fun K hK => ?_)
    have y9 := (blk_cell HE4.out.y 6).trans rfl
    have yf9 := blk_frozen HE4.out.y 6
    refine skip_ (w1 := W4.setCell ⟨yb, 6, none⟩ (.slice A4 (log ++ lz).length c4)) (by rfl) rfl (by go_simp; try rfl) ?_
    refine hK.out _ _ ?_
    clear hK K
    refine done_ (by kernel_rfl) ?_
    have HE5 := am (HE4.out.sety 6 (.slice A4 (log ++ lz).length c4) (Y' := #[.int .i64 st, .int .i64 tm, .int .i64 was, .int .i64 ck, .slice (some ⟨qb, 0, none⟩) p.Q p.Q, .slice Ag got.length mg, (.slice A4 (log ++ lz).length c4)]) rfl)
    clear y6 y9 yf9 HE4 HN
    generalize W4.setCell ⟨yb, 6, none⟩ (.slice A4 (log ++ lz).length c4) = W5 at *
    go_wp2
    go_meet
    case rel =>
     have hE := HE5.out
     rw [← HYES.out] at hE
     refine ⟨A4, c4, hE, ?_⟩
     rcases HAT4.out with e | ⟨b, e, hb⟩
     ·exact .inl (by first | exact e | (rw [← HYES.out] at e; exact e))
     ·exact .inr ⟨b, by first | exact e | (rw [← HYES.out] at e; exact e), Nat.le_trans HE.out.k.size (by have := hb; have := HBS.out; omega)⟩
  case rest =>
   obtain ⟨A8, c8, hE, how⟩ := hcut.out
   have HOW := am how
   have HE := am hE
   clear hE how hcut HBB hnx hny hlz hlg
   have gg := (NBa.out wc HE.out.k).gcells
   have hmk : ∀ W : World, (Instr.makeSlice 71 (.int .i64 p.c.slots) (.int .i64 p.c.slots)).run Tryz.prog W = .ok (.slice (some ⟨W.heap.size, 0, none⟩) p.Q p.Q) (W.alloc (.cells ((List.replicate p.Q [Value.int .i64 0, .int .i64 0]).flatten.toArray) 55)) := fun W => by
    exact make_run (P := Tryz.prog) 71 55 [.int .i64 0, .int .i64 0] (.agg #[.int .i64 0, .int .i64 0]) 16 Tryz.underlying71 info_item9 rfl (by simp) p.c.slots p.Q (by have := hN12.out; omega) (by have := hN12.out; omega) (by omega) W
   go_upto_region 9 with (go_at_call 41; refine (KS.out _ (NBa.out wc HE.out.k).im.C).mono ?_; rintro e W6 ⟨rfl, hb⟩; have hgb := am (show w.heap.size ≤ W6.heap.size from (HE.out.below hb).k.size); have HE6 := am ((HE.out.below hb).below (b_al W6 (.cells ((List.replicate p.Q [Value.int .i64 0, .int .i64 0]).flatten.toArray) 55))); have y5 := (blk_cell HE6.out.y 5).trans rfl; have yf5 := blk_frozen HE6.out.y 5; clear hb gg HE)
   have HG6 := am (blk_new W6 (.cells ((List.replicate p.Q [Value.int .i64 0, .int .i64 0]).flatten.toArray) 55))
   have HG := am (show ((W6.alloc (.cells ((List.replicate p.Q [Value.int .i64 0, .int .i64 0]).flatten.toArray) 55)).setCell ⟨yb, 5, none⟩ (.slice (some ⟨W6.heap.size, 0, none⟩) p.Q p.Q)).heap[W6.heap.size]? = some (.cells (itV (fillG G 0 p.Q)).toArray 55 (0, 0)) from by
    have h1 := ((Kp.refl (fun k => k = yb) (W6.alloc (.cells ((List.replicate p.Q [Value.int .i64 0, .int .i64 0]).flatten.toArray) 55))).set_ (p := ⟨yb, 5, none⟩) (.inl rfl) (.slice (some ⟨W6.heap.size, 0, none⟩) p.Q p.Q)).blk HG6.out (fun e => ne_of_types HG6.out HE6.out.y (by decide) e)
    rw [h1]
    unfold fillG
    rw [List.take_zero, List.nil_append, Nat.sub_zero, itV_rep])
   obtain ⟨gb, hgbe⟩ : ∃ gb, gb = W6.heap.size := ⟨_, rfl⟩
   have HE := am (HE6.out.sety 5 (.slice (some ⟨W6.heap.size, 0, none⟩) p.Q p.Q) (Y' := #[.int .i64 st, .int .i64 tm, .int .i64 was, .int .i64 ck, .slice (some ⟨qb, 0, none⟩) p.Q p.Q, .slice (some ⟨gb, 0, none⟩) p.Q p.Q, (.slice A8 log1.length c8)]) (by rw [hgbe]; rfl))
   rw [← hgbe] at HE HG hgb ⊢
   clear y5 yf5 HE6 HG6 hmk hgbe KS
   generalize (W6.alloc (.cells ((List.replicate p.Q [Value.int .i64 0, .int .i64 0]).flatten.toArray) 55)).setCell ⟨yb, 5, none⟩ (.slice (some ⟨gb, 0, none⟩) p.Q p.Q) = W7 at *
   have y5 := (blk_cell HE.out.y 5).trans rfl
   go_wp2
   clear y5
   go_loopw [47] (fun v w' => ∃ s : Nat, v = .int .i64 s ∧ s ≤ p.Q ∧ Aside0 (EI w FX xb yb #[.int .i64 st, .int .i64 tm, .int .i64 was, .int .i64 ck, .slice (some ⟨qb, 0, none⟩) p.Q p.Q, .slice (some ⟨gb, 0, none⟩) p.Q p.Q, (.slice A8 log1.length c8)] (.slice A8 log1.length c8) log1 w') ∧ Aside0 (w'.heap[gb]? = some (.cells (itV (fillG G s p.Q)).toArray 55 (0, 0)))) (fun v _ => p.Q - (intOf v).toNat)
   case atStart => exact ⟨0, rfl, Nat.zero_le _, HE, HG⟩
   case round =>
    clear HE HG
    obtain ⟨s, rfl, hs, HE, HG⟩ := hrel
    by_cases hlt : s < p.Q
    ·have hlt9 := am hlt
     have hs15 : s ≤ 15 := by have := hN12.out; omega
     obtain ⟨⟨ia, ib⟩, hit⟩ : ∃ it, itemZ l i s = it := ⟨_, rfl⟩
     have KIs := am (KI.out s hlt)
     rw [hit] at KIs
     have HST := am (show overAt (itV (fillG G s p.Q)) (s * 2) [.int .i64 ia, .int .i64 ib] = itV (fillG G (s + 1) p.Q) from by
      have h1 := itV_put (fillG G s p.Q) s ⟨ia, ib⟩ (by rw [fillG_len HGL.out hs]; exact hlt)
      have h2 := fillG_step (N := p.Q) HGL.out hlt
      have h3 := HGI.out s hlt
      rw [List.getElem?_eq_getElem (by rw [HGL.out]; exact hlt), hit] at h3
      rw [Option.some.inj h3] at h2
      rw [← h2]
      exact h1)
     have hfl := am (show (fillG G s p.Q).length = p.Q ∧ s < p.Q from ⟨fillG_len HGL.out hs, hlt⟩)
     obtain ⟨fl, hfle⟩ : ∃ fl, fillG G s p.Q = fl := ⟨_, rfl⟩
     rw [hfle] at HG HST hfl
     have q3 := eq_true (show ((s : Int) < (p.Q : Int)) by omega)
     have y5 := (blk_cell HE.out.y 5).trans rfl
     clear hit hfle hlt hs
     go_upto_region 12 with (fail)
     have HN := am (below_drew (Below.refl wr.heap.size wr))
     refine startB (n := 9) (F := fun _ => False) (ds := [8]) (by kernel_rfl) rfl (fun hHeld => ?_)
     refine plan_ [.p 0 50, .t 1 51, .p 2 52, .p 3 53, .p 4 54, .p 5 55] ?_
     repeat (first | refine jP ?_ | refine jW hHeld ?_ | refine jG ?_)
     refine planE ?_
     refine jO 6 (some 56) (fun K hK => ?_)
     refine kC Tryz.func79 #[.pointer (some ⟨p.g, 0, none⟩), .int .i64 i, .int .i64 s] ?_
     refine (KIs.out _ (HE.out.k.then_ HN.out)).mono ?_
     rintro e Wn ⟨rfl, hb⟩
     replace HN := am (b_tr HN.out hb)
     clear hb
     refine ⟨_, rfl, ?_⟩
     refine hK.out _ _ (Kp.of HN.out) (fun hHeld => ?_)
     clear hK K
     refine jM 56 ?_
     refine plan_ [.p 7 57] ?_
     repeat (first | refine jP ?_ | refine jW hHeld ?_ | refine jG ?_)
     refine planE ?_
     refine jL 8 none (fun K hK => ?_)
     refine store_ev (by rfl) rfl _ _ _ rfl gb (s * 2) 55 #[.int .i64 ia, .int .i64 ib] (itV fl) rfl (by rfl) (blk_below HG.out HN.out) (by rw [itV_len]; have := hfl.out; simp; omega) info_item2 (by simp [Value.oneCell']) (fun W9 h9 k9 => ?_)
     have HG9 := am h9
     have HE9 := am ((HE.out.below HN.out).other (blk_below HG.out HN.out) hgb.out k9)
     clear h9 k9
     refine hK.out _ _ ?_
     clear hK K
     refine done_ (by kernel_rfl) ?_
     clear y5
     go_wp2
     go_roundw
     case rel => exact ⟨s + 1, by simp, hlt9.out, HE9, ⟨by rw [← HST.out]; exact HG9.out⟩⟩
     case measure => have := hlt9.out; simp [intOf]; omega
    ·obtain rfl : s = p.Q := by omega
     have HGF := am (show wr.heap[gb]? = some (.cells (itV G).toArray 55 (0, 0)) from by
      have h1 := HG.out
      unfold fillG at h1
      rw [List.take_of_length_le (by have := HGL.out; omega), Nat.sub_self] at h1
      simpa using h1)
     clear hlt hs HG
     go_upto_region 15 with (go_at_call 80; refine (KH.out _ HE.out.k).mono ?_; rintro e W8 ⟨v8, rfl, hR, hb⟩; have HHR := am (RdT.of_R hR); obtain ⟨Ah, ch, rfl⟩ := Kd.R_slice hR; have n1 := am (HE.out.below hb); have n2 := am (blk_below HGF.out hb); clear HE HGF hb hR; have HE := n1; have HGF := n2; clear n1 n2)
     have KT := am (KT1.out Ah ch (by obtain ⟨A', m', e1, e2, -⟩ := HHR.out; injection e1 with _ _ e3; omega))
     have y3 := (blk_cell HE.out.y 3).trans rfl
     have HN := am (below_drew (Below.refl W8.heap.size W8))
     refine startB (n := 9) (F := fun _ => False) (ds := [8]) (by kernel_rfl) rfl (fun hHeld => ?_)
     refine plan_ [.p 0 62, .t 1 63, .p 2 64, .p 3 65, .p 4 66] ?_
     repeat (first | refine jP ?_ | refine jW hHeld ?_ | refine jG ?_)
     refine planE ?_
     refine jO 5 (some 67) (fun K hK => ?_)
     refine kC Tryz.func81 #[.int .i64 st, .int .i64 i, .slice Ah hd.length ch] ?_
     refine (KT.out _ (HHR.out.below HN.out).C.1).mono ?_
     rintro e Wn ⟨rfl, hb⟩
     replace HN := am (b_tr HN.out hb)
     clear hb
     refine ⟨_, rfl, ?_⟩
     refine hK.out _ _ (Kp.of HN.out) (fun hHeld => ?_)
     clear hK K
     refine jM 67 ?_
     refine plan_ [.p 6 68, .p 7 69] ?_
     repeat (first | refine jP ?_ | refine jW hHeld ?_ | refine jG ?_)
     refine planE ?_
     refine jL 8 none (fun K hK => ?_)
     have y9 := (blk_cell (HE.out.below HN.out).y 3).trans rfl
     have yf9 := blk_frozen (HE.out.below HN.out).y 3
     refine skip_ (w1 := Wn.setCell ⟨yb, 3, none⟩ (.int .i64 (wrap64 (ck + sp)))) (by rfl) rfl (by go_simp; try rfl) ?_
     refine hK.out _ _ ?_
     clear hK K
     refine done_ (by kernel_rfl) ?_
     have n1 := am ((HE.out.below HN.out).sety 3 (.int .i64 (wrap64 (ck + sp))) (Y' := #[.int .i64 st, .int .i64 tm, .int .i64 was, .int .i64 (wrap64 (ck + sp)), .slice (some ⟨qb, 0, none⟩) p.Q p.Q, .slice (some ⟨gb, 0, none⟩) p.Q p.Q, (.slice A8 log1.length c8)]) rfl)
     have n2 := am (((Kp.refl (fun k => k = yb) Wn).set_ (p := ⟨yb, 3, none⟩) (.inl rfl) (.int .i64 (wrap64 (ck + sp)))).blk (blk_below HGF.out HN.out) (fun e => ne_of_types HGF.out HE.out.y (by decide) e))
     have n3 := am (show hd.length ≤ 12 from hdl9.out)
     clear HE HGF HN HHR y3 y9 yf9 KT KT1
     have HE := n1
     have HGF := n2
     clear n1 n2
     generalize Wn.setCell ⟨yb, 3, none⟩ (.int .i64 (wrap64 (ck + sp))) = W9 at *
     have gg := (NBa.out W9 HE.out.k).gcells
     have y1 := (blk_cell HE.out.y 1).trans rfl
     go_wp2
     have HN := am (below_drew (Below.refl W9.heap.size W9))
     refine startB (n := 18) (F := fun _ => False) (ds := [15, 17]) (by kernel_rfl) rfl (fun hHeld => ?_)
     refine plan_ [.p 0 71, .p 1 72, .p 2 73, .t 3 74, .p 4 75, .p 5 76, .p 6 77, .t 7 78, .p 8 79, .p 9 80] ?_
     repeat (first | refine jP ?_ | refine jW hHeld ?_ | refine jG ?_)
     refine planE ?_
     refine jO 10 (some 81) (fun K hK => ?_)
     refine kC Tryz.func82 #[p.c.v p.A p.m, .int .i64 i, .int .i64 st, .int .i64 tm, .int .i64 hd.length] ?_
     refine (KN.out _ (NBa.out _ (HE.out.below HN.out).k).im.C).mono ?_
     rintro e Wn ⟨rfl, hb⟩
     replace HN := am (b_tr HN.out hb)
     clear hb
     refine ⟨_, rfl, ?_⟩
     refine hK.out _ _ (Kp.of HN.out) (fun hHeld => ?_)
     clear hK K
     refine jM 81 ?_
     refine plan_ [.p 11 70, .p 12 82, .p 13 83, .p 14 84] ?_
     repeat (first | refine jP ?_ | refine jW hHeld ?_ | refine jG ?_)
     refine planE ?_
     refine jL 15 none (fun K hK => ?_)
     have y9 := (blk_cell (HE.out.below HN.out).y 0).trans rfl
     have yf9 := blk_frozen (HE.out.below HN.out).y 0
     refine skip_ (w1 := Wn.setCell ⟨yb, 0, none⟩ (.int .i64 n1)) (by rfl) rfl (by go_simp; try rfl) ?_
     have HEa := am ((HE.out.below HN.out).sety 0 (.int .i64 n1) (Y' := #[.int .i64 n1, .int .i64 tm, .int .i64 was, .int .i64 (wrap64 (ck + sp)), .slice (some ⟨qb, 0, none⟩) p.Q p.Q, .slice (some ⟨gb, 0, none⟩) p.Q p.Q, (.slice A8 log1.length c8)]) rfl)
     clear y9 yf9
     refine hK.out _ _ ?_
     clear hK K
     refine plan_ [.p 16 85] ?_
     repeat (first | refine jP ?_ | refine jW hHeld ?_ | refine jG ?_)
     refine planE ?_
     refine jL 17 none (fun K hK => ?_)
     have y9 := (blk_cell HEa.out.y 1).trans rfl
     have yf9 := blk_frozen HEa.out.y 1
     refine skip_ (w1 := (Wn.setCell ⟨yb, 0, none⟩ (.int .i64 n1)).setCell ⟨yb, 1, none⟩ (.int .i64 n2)) (by rfl) rfl (by go_simp; try rfl) ?_
     refine hK.out _ _ ?_
     clear hK K
     refine done_ (by kernel_rfl) ?_
     have m1 := am (HEa.out.sety 1 (.int .i64 n2) (Y' := #[.int .i64 n1, .int .i64 n2, .int .i64 was, .int .i64 (wrap64 (ck + sp)), .slice (some ⟨qb, 0, none⟩) p.Q p.Q, .slice (some ⟨gb, 0, none⟩) p.Q p.Q, (.slice A8 log1.length c8)]) rfl)
     have m2 := am ((((Kp.refl (fun k => k = yb) Wn).set_ (p := ⟨yb, 0, none⟩) (.inl rfl) (.int .i64 n1)).set_ (p := ⟨yb, 1, none⟩) (.inl rfl) (.int .i64 n2)).blk (blk_below HGF.out HN.out) (fun e => ne_of_types HGF.out HE.out.y (by decide) e))
     clear HE HEa HGF HN gg y1 y9 yf9
     have HE := m1
     have HGF := m2
     clear m1 m2
     generalize (Wn.setCell ⟨yb, 0, none⟩ (.int .i64 n1)).setCell ⟨yb, 1, none⟩ (.int .i64 n2) = W10 at *
     have y2 := (blk_cell HE.out.y 2).trans rfl
     have yf2 := blk_frozen HE.out.y 2
     go_upto_region 18 with (fail)
     have m1 := am (HE.out.sety 2 (.int .i64 st) (Y' := #[.int .i64 n1, .int .i64 n2, .int .i64 st, .int .i64 (wrap64 (ck + sp)), .slice (some ⟨qb, 0, none⟩) p.Q p.Q, .slice (some ⟨gb, 0, none⟩) p.Q p.Q, (.slice A8 log1.length c8)]) rfl)
     have m2 := am (((Kp.refl (fun k => k = yb) W10).set_ (p := ⟨yb, 2, none⟩) (.inl rfl) (.int .i64 st)).blk HGF.out (fun e => ne_of_types HGF.out HE.out.y (by decide) e))
     clear HE HGF y2 yf2
     have HE := m1
     have HGF := m2
     clear m1 m2
     generalize W10.setCell ⟨yb, 2, none⟩ (.int .i64 st) = W11 at *
     go_wp2_with (first | ((with_reducible refine gate_ (.load 90 (.tmp 5)) rfl ?_); refine wpList_load_row rfl 90 (.tmp 5) rfl yb rfl _ _ _ _ HE.out.y Tryz.underlying90 rfl info_node7 ?_) | ((with_reducible refine gate_ (.store 90 (.tmp 4) (.tmp 88)) rfl ?_); refine store_part rfl 90 (.tmp 4) (.tmp 88) rfl (xb) 0 90 #[.int .i64 n1, .int .i64 n2, .int .i64 st, .int .i64 (wrap64 (ck + sp)), .slice (some ⟨qb, 0, none⟩) p.Q p.Q, .slice (some ⟨gb, 0, none⟩) p.Q p.Q, (.slice A8 log1.length c8)] [.int .i64 0, .int .i64 0, .int .i64 0, .int .i64 0, .slice none 0 0, .slice none 0 0, .slice none 0 0] rfl rfl HE.out.x (by simp) info_node7 (by simp [Value.oneCell']) ?_; intro W12 HG4_ KG4_; have HG4 := am HG4_; have KG4 := am KG4_; clear HG4_ KG4_))
     exact bodyPost_ret (v := .agg #[.int .i64 n1, .int .i64 n2, .int .i64 st, .int .i64 (wrap64 (ck + sp)), .slice (some ⟨qb, 0, none⟩) p.Q p.Q, .slice (some ⟨gb, 0, none⟩) p.Q p.Q, (.slice A8 log1.length c8)]) (results_cell_row Tryz.results46 _ W12 _ _ _ _ _ rfl HG4.out hu rfl info_node7) rfl (by
      have hK : Kp FX w W12 := ⟨KG4.out.os.trans HE.out.k.os, KG4.out.tape.trans HE.out.k.tape, KG4.out.output.trans HE.out.k.output, Nat.le_trans HE.out.k.size KG4.out.size, fun k hk hn => (KG4.out.block k (Nat.lt_of_lt_of_le hk HE.out.k.size) (fun e => by have := hxw.out; omega)).trans (HE.out.k.block k hk hn)⟩
      have hG := KG4.out.blk HGF.out (fun e => ne_of_types HGF.out HE.out.x (by decide) e)
      have hR := line_keep HE.out.r (fun g hg => by
       obtain ⟨cells, hc⟩ := Kd.R_typed HE.out.r g hg
       exact KG4.out.block g (blk_lt hc) (fun e => ne_of_types hc HE.out.x (by decide) e))
      have hI := RdT.items hG (by have := HGL.out; have := hN12.out; omega)
      rw [HGL.out] at hI
      refine ⟨⟨qb, .slice (some ⟨gb, 0, none⟩) p.Q p.Q, .slice A8 log1.length c8⟩, rfl, ⟨hK.blk HAT.out.hq (fun e => ?_), HAT.out.hqn, HAT.out.hqa, hI, .inr HGL.out, ⟨_, _, _, rfl⟩⟩, hR, rfl, HOW.out, by rw [hFX]; exact hK⟩
      obtain ⟨cells, hc⟩ := HFOt.out _ e
      exact ne_of_types HAT.out.hq hc (by decide) rfl)
theorem net_end (p : NtP) (ok0 : p.OK) (nb : Nat) (round : Int) (hr0 : 0 ≤ round) (hr1 : round ≤ 1000) (nz : List Nz) (sv cv : Value) (l : List Sl) (hll : l.length = p.Q) (i : Nat) (hi : i < p.N) (w : World) (h : NB p w nb round nz sv cv) (hst : StR p w sv l) (hlog : Kd.R k57 57 w 0 (fun _ => True) (gz nz i).2.lv (gz nz i).1.log) (htm : 0 ≤ (gz nz i).1.tm ∧ (gz nz i).1.tm ≤ 1000) (hlg : (gz nz i).1.log.length ≤ 100000) :
  Calls Tryz.prog 46 #[.pointer (some ⟨p.g, 0, none⟩), .int .i64 i] w (EdR p (gz nz i) (endZ p round nz l i) w) := by
 by_cases h0 : (gz nz i).1.st = 0
 ·exact end_off p ok0 nb round nz sv cv l i hi w h hlog h0
 ·exact end_on p ok0 nb round hr0 hr1 nz sv cv l hll i hi w h hst hlog htm hlg h0
end Go.Proofs.YtgcgglmmfgmaoaaGreat.PK
end
section
namespace Go.Proofs.YtgcgglmmfgmaoaaGreat.PK
open Go Go.RowKit Go.Proofs.YtgcgglmmfgmaoaaGreatW.PrintWords Go.Proofs.YtgcgglmmfgmaoaaGreatW.PrintLast Go.Proofs.YtgcgglmmfgmaoaaGreatW.PrintMore
attribute [local go_sem] max2_int min2_int max_two min_two
def LgO (W : World) (nz : List Nz) : Prop := ∀ x ∈ nz, Kd.R k57 57 W 0 (fun _ => True) x.2.lv x.1.log
def FL (nz : List Nz) (k : Nat) : Prop := ∃ z ∈ nz, some k = z.2.lv.ownBlock
theorem NdH.mt {p : NtP} {W W' : World} {x : Nz} (h : NdH p W x) {F : Nat → Prop} (hk : Kp F W W') (hft : FT F W) (hq : ¬ F x.2.qb) : NdH p W' x := ⟨hk.blk h.hq hq, h.hqn, h.hqa, h.hg.mt plain_item hk hft (by simp [MT]), h.hgn, h.hl⟩
theorem ndsV_app (Q : Nat) : ∀ a b : List Nz, ndsV Q (a ++ b) = ndsV Q a ++ ndsV Q b
 | [], b => rfl
 | x :: r, b => by
  show x.1.cs Q x.2 ++ ndsV Q (r ++ b) = (x.1.cs Q x.2 ++ ndsV Q r) ++ ndsV Q b
  rw [ndsV_app Q r b, List.append_assoc]
def zC : List Value := [.int .i64 0, .int .i64 0, .int .i64 0, .int .i64 0, .slice none 0 0, .slice none 0 0, .slice none 0 0]
def fillN (Q : Nat) (zs : List Nz) (n : Nat) : List Value := ndsV Q zs ++ (List.replicate n zC).flatten
theorem fillN_put (Q : Nat) (zs : List Nz) (n : Nat) (z : Nz) : overAt (fillN Q zs (n + 1)) (zs.length * 7) (z.1.cs Q z.2) = fillN Q (zs ++ [z]) n := by
 have hl := ndsV_len Q zs
 unfold fillN overAt
 rw [List.replicate_succ, List.flatten_cons, ← hl, List.take_left, show (ndsV Q zs).length + (z.1.cs Q z.2).length = (ndsV Q zs).length + 7 from rfl, List.drop_length_add_append, ndsV_app]
 show _ ++ z.1.cs Q z.2 ++ (List.replicate n zC).flatten = ndsV Q zs ++ (z.1.cs Q z.2 ++ []) ++ _
 rw [List.append_nil]
structure EN (p : NtP) (round : Int) (nz : List Nz) (l : List Sl) (w : World) (nb' : Nat) (zs : List Nz) (W : World) : Prop where
 ho : LgO w nz
 hp : nz.Pairwise Apt
 hn : W.heap[nb']? = some (.cells (fillN p.Q zs (nz.length - zs.length)).toArray 90 (0, 0))
 hw : w.heap.size ≤ nb'
 hz : ∀ j, j < zs.length → (gz zs j).1 = endZ p round nz l j ∧ (gz zs j).2.qb = (gz nz j).2.qb ∧ ((gz zs j).2.lv.ownBlock = (gz nz j).2.lv.ownBlock ∨ ∃ b, (gz zs j).2.lv.ownBlock = some b ∧ w.heap.size ≤ b)
 hx : ∀ x ∈ zs, NdH p W x
 hr : LgO W zs
 ha : zs.Pairwise Apt
 hk : Kp (FL nz) w W
 hu : ∀ j, zs.length ≤ j → j < nz.length → Kd.R k57 57 W 0 (fun _ => True) (gz nz j).2.lv (gz nz j).1.log
theorem gz_mem {nz : List Nz} {j : Nat} (h : j < nz.length) : gz nz j ∈ nz := by rw [gz_at h]; exact List.getElem_mem h
theorem apt_at {nz : List Nz} (hp : nz.Pairwise Apt) {i j : Nat} (hi : i < nz.length) (hj : j < nz.length) (h : i ≠ j) : (gz nz i).2.qb ≠ (gz nz j).2.qb ∧ ∀ k, (gz nz i).2.lv.ownBlock = some k → (gz nz j).2.lv.ownBlock ≠ some k := by
 rw [gz_at hi, gz_at hj]
 rcases Nat.lt_or_gt_of_ne h with h1 | h1
 ·exact List.pairwise_iff_getElem.1 hp i j hi hj h1
 ·have h2 := List.pairwise_iff_getElem.1 hp j i hj hi h1
  exact ⟨fun e => h2.1 e.symm, fun k e1 e2 => h2.2 k e2 e1⟩
theorem gz_app_l {zs : List Nz} {z : Nz} {j : Nat} (h : j < zs.length) : gz (zs ++ [z]) j = gz zs j := by
 rw [gz_at (by simp; omega), gz_at h, List.getElem_append_left h]
theorem gz_app_r {zs : List Nz} {z : Nz} : gz (zs ++ [z]) zs.length = z := by
 rw [gz_at (by simp), List.getElem_append_right (Nat.le_refl _)]
 simp
theorem EN.step {p : NtP} {round : Int} {nz : List Nz} {l : List Sl} {w W W2 W3 : World} {nb' : Nat} {zs : List Nz} (h : EN p round nz l w nb' zs W) (hlt : zs.length < nz.length) (y : NdA)
  (hNd : NdH p W2 (endZ p round nz l zs.length, y)) (hR : Kd.R k57 57 W2 0 (fun _ => True) y.lv (endZ p round nz l zs.length).log) (hqb : y.qb = (gz nz zs.length).2.qb)
  (hown : y.lv.ownBlock = (gz nz zs.length).2.lv.ownBlock ∨ ∃ b, y.lv.ownBlock = some b ∧ W.heap.size ≤ b) (hk2 : Kp (FO (gz nz zs.length)) W W2) (hk3 : Kp (fun k => k = nb') W2 W3)
  (hn3 : W3.heap[nb']? = some (.cells (fillN p.Q (zs ++ [(endZ p round nz l zs.length, y)]) (nz.length - (zs ++ [(endZ p round nz l zs.length, y)]).length)).toArray 90 (0, 0))) :
  EN p round nz l w nb' (zs ++ [(endZ p round nz l zs.length, y)]) W3 := by
 have htF : ∀ k, FO (gz nz zs.length) k → ∃ cells, W.heap[k]? = some (.cells cells 57 (0, 0)) := fun k hk => Kd.R_typed (h.hu _ (Nat.le_refl _) hlt) k hk.symm
 have hft2 : FT (FO (gz nz zs.length)) W := fun k hk => by
  obtain ⟨cells, hc⟩ := htF k hk
  exact ⟨cells, _, hc, by simp [MT]⟩
 have hnF : ¬ FO (gz nz zs.length) nb' := fun e => by
  obtain ⟨cells, hc⟩ := htF _ e
  exact ne_of_types hc h.hn (by decide) rfl
 have hn2 := hk2.blk h.hn hnF
 have hft3 : FT (fun k => k = nb') W2 := fun k hk => by
  subst hk
  exact ⟨_, _, hn2, by simp [MT]⟩
 have keep3 : ∀ {v : Value} {log : List S57}, Kd.R k57 57 W2 0 (fun _ => True) v log → Kd.R k57 57 W3 0 (fun _ => True) v log := fun hr => line_keep hr (fun g hg => by
  obtain ⟨cells, hc⟩ := Kd.R_typed hr g hg
  exact hk3.block g (blk_lt hc) (fun e => ne_of_types hc hn2 (by decide) e))
 have keep2 : ∀ {v : Value} {log : List S57}, Kd.R k57 57 W 0 (fun _ => True) v log → (∀ g, v.ownBlock = some g → ¬ FO (gz nz zs.length) g) → Kd.R k57 57 W2 0 (fun _ => True) v log := fun hr hne => line_keep hr (fun g hg => by
  obtain ⟨cells, hc⟩ := Kd.R_typed hr g hg
  exact hk2.block g (blk_lt hc) (hne g hg))
 have old : ∀ {j : Nat} {g : Nat}, j < nz.length → (gz nz j).2.lv.ownBlock = some g → g < w.heap.size := fun hj hg => by
  obtain ⟨cells, hc⟩ := Kd.R_typed (h.ho _ (gz_mem hj)) _ hg
  exact blk_lt hc
 have now : ∀ x ∈ zs, ∀ g, x.2.lv.ownBlock = some g → g < W.heap.size := fun x hx g hg => by
  obtain ⟨cells, hc⟩ := Kd.R_typed (h.hr x hx) g hg
  exact blk_lt hc
 have idx : ∀ x ∈ zs, ∃ j, j < zs.length ∧ gz zs j = x := fun x hx => by
  obtain ⟨j, hj, e⟩ := List.mem_iff_getElem.1 hx
  exact ⟨j, hj, by rw [gz_at hj]; exact e⟩
 have ndF : ∀ x ∈ zs, ∀ g, x.2.lv.ownBlock = some g → ¬ FO (gz nz zs.length) g := fun x hx g hg hf => by
  obtain ⟨j, hj, rfl⟩ := idx x hx
  have hf' : (gz nz zs.length).2.lv.ownBlock = some g := hf.symm
  rcases (h.hz j hj).2.2 with e | ⟨b, e, hb⟩
  ·rw [e] at hg
   exact (apt_at h.hp (Nat.lt_trans hj hlt) hlt (Nat.ne_of_lt hj)).2 g hg hf'
  ·rw [e] at hg
   have := Option.some.inj hg
   have := old hlt hf'
   omega
 refine ⟨h.ho, h.hp, hn3, h.hw, fun j hj => ?_, fun x hx => ?_, fun x hx => ?_, ?_, ?_, fun j hj hjn => ?_⟩
 ·rw [List.length_append, List.length_singleton] at hj
  by_cases hjz : j < zs.length
  ·rw [gz_app_l hjz]; exact h.hz j hjz
  ·obtain rfl : j = zs.length := by omega
   rw [gz_app_r]
   refine ⟨rfl, hqb, ?_⟩
   rcases hown with e | ⟨b, e, hb⟩
   ·exact .inl e
   ·exact .inr ⟨b, e, Nat.le_trans h.hk.size hb⟩
 ·rcases List.mem_append.1 hx with hx | hx
  ·have h1 := h.hx x hx
   have hq2 : ¬ FO (gz nz zs.length) x.2.qb := fun e => by
    obtain ⟨cells, hc⟩ := htF _ e
    exact ne_of_types hc h1.hq (by decide) rfl
   have h2 := h1.mt hk2 hft2 hq2
   exact h2.mt hk3 hft3 (fun e => ne_of_types h2.hq hn2 (by decide) e)
  ·obtain rfl := List.mem_singleton.1 hx
   exact hNd.mt hk3 hft3 (fun e => ne_of_types hNd.hq hn2 (by decide) e)
 ·rcases List.mem_append.1 hx with hx | hx
  ·exact keep3 (keep2 (h.hr x hx) (ndF x hx))
  ·obtain rfl := List.mem_singleton.1 hx
   exact keep3 hR
 ·refine List.pairwise_append.2 ⟨h.ha, List.pairwise_singleton _ _, fun x hx z hz => ?_⟩
  obtain rfl := List.mem_singleton.1 hz
  obtain ⟨j, hj, rfl⟩ := idx x hx
  have h1 := h.hz j hj
  have ap := apt_at h.hp (Nat.lt_trans hj hlt) hlt (Nat.ne_of_lt hj)
  refine ⟨fun e => ap.1 (by rw [← h1.2.1, ← hqb]; exact e), fun k e1 e2 => ?_⟩
  have e2' : y.lv.ownBlock = some k := e2
  have hlow := now _ hx k e1
  rcases hown with e3 | ⟨b, e3, hb⟩
  ·rw [e3] at e2'
   exact ndF _ hx k e1 e2'.symm
  ·rw [e3] at e2'
   have := Option.some.inj e2'
   omega
 ·have a1 : Kp (FL nz) w W2 := h.hk.trans (hk2.mono (fun k _ hf => ⟨_, gz_mem hlt, hf⟩))
  exact ⟨hk3.os.trans a1.os, hk3.tape.trans a1.tape, hk3.output.trans a1.output, Nat.le_trans a1.size hk3.size, fun i hi hn => (hk3.block i (Nat.lt_of_lt_of_le hi a1.size) (fun e => by have := h.hw; omega)).trans (a1.block i hi hn)⟩
 ·rw [List.length_append, List.length_singleton] at hj
  exact keep3 (keep2 (h.hu j (by omega) hjn) (fun g hg hf => (apt_at h.hp hjn hlt (by omega)).2 g hg hf.symm))
theorem info_node9 : (Tryz.prog.info? 90).map (fun i => (i.zero, i.size, i.bytes)) = some (some (.agg #[.int .i64 0, .int .i64 0, .int .i64 0, .int .i64 0, .slice none 0 0, .slice none 0 0, .slice none 0 0]), 7, 104) := by kernel_rfl
theorem each_nodes (p : NtP) (ok0 : p.OK) (nb : Nat) (round : Int) (hr0 : 0 ≤ round) (hr1 : round ≤ 1000) (nz : List Nz) (sv cv : Value) (l : List Sl) (hll : l.length = p.Q) (w : World) (h : NB p w nb round nz sv cv) (hst : StR p w sv l) (hlo : LgO w nz) (htm : ∀ z ∈ nz, (0 ≤ z.1.tm ∧ z.1.tm ≤ 1000) ∧ z.1.log.length ≤ 100000) :
  Calls Tryz.prog 45 #[.pointer (some ⟨p.g, 0, none⟩), .func (.func 46) #[.pointer (some ⟨p.g, 0, none⟩)] #[]] w fun e w' => ∃ nb' nz', e = .returned (.slice (some ⟨nb', 0, none⟩) p.N p.N) ∧ nz'.length = p.N ∧ EN p round nz l w nb' nz' w' := by
 have ok := am ok0
 have HH := am h
 have HS := am hst
 have hr := am (And.intro hr0 hr1)
 have HLL := am hll
 have HLO := am hlo
 have HTM := am htm
 have hN := am (show p.N ≤ 12 by have := ok0.hc.n12; have := ok0.hN; omega)
 have hnl := am h.hl
 have gg := h.gcells
 have hmk : ∀ W : World, (Instr.makeSlice 84 (.int .i64 (p.N : Int)) (.int .i64 (p.N : Int))).run Tryz.prog W = .ok (.slice (some ⟨W.heap.size, 0, none⟩) p.N p.N) (W.alloc (.cells (fillN p.Q [] p.N).toArray 90)) := fun W => by
  exact make_run (P := Tryz.prog) 84 90 zC (.agg #[.int .i64 0, .int .i64 0, .int .i64 0, .int .i64 0, .slice none 0 0, .slice none 0 0, .slice none 0 0]) 104 Tryz.underlying84 info_node9 rfl (by simp [zC]) p.N p.N rfl (by have := hN.out; omega) (by omega) W
 clear h hst hr0 hr1 hll hlo htm ok0
 go_enter Tryz.func45, Tryz.ntmps45
 go_upto_region 2 with (fail)
 have HE0 := am (show EN p round nz l w w.heap.size [] (w.alloc (.cells (fillN p.Q [] p.N).toArray 90)) from
  ⟨HLO.out, HH.out.hp, by rw [hnl.out]; exact blk_new w _, Nat.le_refl _, fun j hj => by simp at hj, fun x hx => by simp at hx, fun x hx => by simp at hx, List.Pairwise.nil, Kp.of (b_al w _), fun j _ hj => Kd.R_below (HLO.out _ (gz_mem hj)) (b_al w _)⟩)
 clear gg hmk
 generalize w.alloc (.cells (fillN p.Q [] p.N).toArray 90) = W0 at *
 obtain ⟨nb', hnb'⟩ : ∃ b, b = w.heap.size := ⟨_, rfl⟩
 rw [← hnb'] at HE0 ⊢
 clear hnb'
 go_wp2
 go_loopw [15] (fun v w' => ∃ k : Nat, v = .int .i64 k ∧ k ≤ p.N ∧ Aside0 (∃ zs : List Nz, zs.length = k ∧ EN p round nz l w nb' zs w')) (fun v _ => p.N - (intOf v).toNat)
 case atStart => exact ⟨0, rfl, Nat.zero_le _, ⟨[], rfl, HE0.out⟩⟩
 case round =>
  clear HE0
  obtain ⟨k, rfl, hk, hE⟩ := hrel
  obtain ⟨zs, hzk, hEN⟩ := hE.out
  by_cases hlt : k < p.N
  ·have HEN := am hEN
   have hlt9 := am hlt
   have h12 := hN.out
   subst hzk
   have hft : ∀ k, FL nz k → ∃ cells, w.heap[k]? = some (.cells cells 57 (0, 0)) := fun k ⟨z, hz, e⟩ => Kd.R_typed (HLO.out z hz) k e.symm
   have hNBw := HH.out.other hEN.hk (fun k hf => by
    obtain ⟨cells, hc⟩ := hft k hf
    exact ⟨cells, _, hc, by simp [OT]⟩)
   have hStw := HS.out.keep hEN.hk (fun k cells T hf hc => by
    obtain ⟨c2, hc2⟩ := hft k hf
    rw [hc] at hc2
    simp only [Option.some.injEq, Obj.cells.injEq] at hc2
    obtain ⟨-, rfl, -⟩ := hc2
    decide)
   have hzn : zs.length < nz.length := by rw [hnl.out]; exact hlt
   have KC := am (net_end p ok.out nb round hr.out.1 hr.out.2 nz sv cv l HLL.out zs.length hlt wr hNBw hStw (hEN.hu _ (Nat.le_refl _) hzn) (HTM.out _ (gz_mem hzn)).1 (HTM.out _ (gz_mem hzn)).2)
   have HST := am (fun (y : NdA) W2 W3 => hEN.step (W2 := W2) (W3 := W3) hzn y)
   have hsz := am (show nz.length - zs.length = (nz.length - (zs.length + 1)) + 1 by omega)
   have hfit := am (show (fillN p.Q zs (nz.length - zs.length)).length = nz.length * 7 from by
    unfold fillN
    rw [List.length_append, ndsV_len, flat_len]
    show zs.length * 7 + (nz.length - zs.length) * 7 = nz.length * 7
    omega)
   have hzn9 := am hzn
   unfold EdR at KC
   obtain ⟨⟨st, tm, was, ck, qs, got, log⟩, hz⟩ : ∃ z, endZ p round nz l zs.length = z := ⟨_, rfl⟩
   rw [hz] at KC HST
   have q3 := eq_true (show ((zs.length : Int) < (p.N : Int)) by omega)
   have q4 := show zs.length ≤ 12 by omega
   clear hz hEN hE hk hft hNBw hStw hzn hlt
   go_wp2_with (first
    | (go_at_call 46; refine KC.out.mono ?_; rintro e W2 ⟨⟨qb, gv, lv⟩, rfl, hNd, hR, hqb, hown, hK⟩; obtain ⟨Ag, mg, hgv, -⟩ := id hNd.hg; obtain ⟨Al, cl, hlv⟩ := Kd.R_slice hR; simp only at hgv hlv; subst hgv; subst hlv; have HNd := am hNd; have HR := am hR; have HQB := am hqb; have HOW := am hown; have HK := am hK; have HN2 := am (hK.blk HEN.out.hn (fun e => by obtain ⟨cells, hc⟩ := Kd.R_typed (HEN.out.hu _ (Nat.le_refl _) hzn9.out) _ e.symm; exact ne_of_types hc HEN.out.hn (by decide) rfl)); clear hNd hR hqb hown hK; simp only [Nd.cs])
    | ((with_reducible refine gate_ (.store 90 (.tmp 23) (.tmp 22)) rfl ?_); refine store_part rfl 90 (.tmp 23) (.tmp 22) rfl nb' (zs.length * 7) 90 #[.int .i64 st, .int .i64 tm, .int .i64 was, .int .i64 ck, .slice (some ⟨qb, 0, none⟩) p.Q p.Q, .slice Ag got.length mg, .slice Al log.length cl] (fillN p.Q zs (nz.length - zs.length)) rfl rfl HN2.out (by rw [hfit.out]; have := hzn9.out; simp; omega) info_node7 (by simp [Value.oneCell']) ?_; intro W3 HG_ KG_; have HG := am HG_; have KG := am KG_; clear HG_ KG_))
   go_roundw
   case rel =>
    refine ⟨zs.length + 1, by simp, hlt9.out, ⟨_, by simp, HST.out _ _ _ HNd.out HR.out HQB.out HOW.out HK.out KG.out ?_⟩⟩
    rw [HG.out, hsz.out]
    have h1 := fillN_put p.Q zs (nz.length - (zs.length + 1)) (⟨st, tm, was, ck, qs, got, log⟩, ⟨qb, .slice Ag got.length mg, .slice Al log.length cl⟩)
    rw [List.length_append, List.length_singleton]
    exact congrArg (fun l : List Value => some (Obj.cells l.toArray 90 (0, 0))) h1
   case measure => have := hlt9.out; simp [intOf]; omega
  ·obtain rfl : k = p.N := by omega
   have HEN := am hEN
   have hzk9 := am hzk
   clear hEN hE hk hlt hzk
   go_wp2
   go_ret
   exact ⟨nb', zs, rfl, hzk9.out, HEN.out⟩
end Go.Proofs.YtgcgglmmfgmaoaaGreat.PK
end
section
namespace Go.Proofs.YtgcgglmmfgmaoaaGreat.PK
open Go Go.RowKit Go.Proofs.YtgcgglmmfgmaoaaGreatW.PrintWords Go.Proofs.YtgcgglmmfgmaoaaGreatW.PrintLast Go.Proofs.YtgcgglmmfgmaoaaGreatW.PrintMore
attribute [local go_sem] max2_int min2_int max_two min_two
def Sg (a b : List Nz) : Prop := a.length = b.length ∧ ∀ i, (gz a i).2.lv = (gz b i).2.lv ∧ (gz a i).1.log = (gz b i).1.log ∧ (gz a i).2.qb = (gz b i).2.qb ∧ ((gz a i).1.tm = (gz b i).1.tm ∨ (gz a i).1.tm = 0)
theorem Sg.refl (a : List Nz) : Sg a a := ⟨rfl, fun _ => ⟨rfl, rfl, rfl, .inl rfl⟩⟩
theorem Sg.trans {a b c : List Nz} (h : Sg a b) (k : Sg b c) : Sg a c := ⟨h.1.trans k.1, fun i => ⟨(h.2 i).1.trans (k.2 i).1, (h.2 i).2.1.trans (k.2 i).2.1, (h.2 i).2.2.1.trans (k.2 i).2.2.1, by
 rcases (h.2 i).2.2.2 with e | e
 ·rw [e]; exact (k.2 i).2.2.2
 ·exact .inr e⟩⟩
theorem gz_set_ne (a : List Nz) {i j : Nat} (z : Nz) (h : i ≠ j) : gz (a.set i z) j = gz a j := by
 unfold gz
 rw [List.getD_eq_getElem?_getD, List.getD_eq_getElem?_getD, List.getElem?_set_ne h]
theorem gz_set_out (a : List Nz) {i : Nat} (z : Nz) (h : ¬ i < a.length) : a.set i z = a := List.set_eq_of_length_le (by omega)
theorem Sg.set (a : List Nz) (i : Nat) (z : Nz) (h1 : z.2.lv = (gz a i).2.lv) (h2 : z.1.log = (gz a i).1.log) (h3 : z.2.qb = (gz a i).2.qb) (h4 : z.1.tm = (gz a i).1.tm ∨ z.1.tm = 0) : Sg (a.set i z) a := by
 refine ⟨by simp, fun j => ?_⟩
 by_cases hi : i < a.length
 ·by_cases hij : i = j
  ·subst hij
   rw [gz_set z hi]
   exact ⟨h1, h2, h3, h4⟩
  ·rw [gz_set_ne a z hij]
   exact ⟨rfl, rfl, rfl, .inl rfl⟩
 ·rw [gz_set_out a z hi]
  exact ⟨rfl, rfl, rfl, .inl rfl⟩
theorem powR_sg (p : NtP) (round : Int) (nz : List Nz) : Sg (powR p round nz) nz := by
 unfold powR
 split
 ·exact Sg.set _ _ _ rfl rfl rfl (.inr rfl)
 ·exact Sg.refl _
theorem pow_kept (p : NtP) (round : Int) (i : Nat) (x : Nd) : (x.pow p round i).log = x.log ∧ (x.pow p round i).qs = x.qs ∧ (x.pow p round i).got = x.got ∧ ((x.pow p round i).tm = x.tm ∨ (x.pow p round i).tm = 0) := by
 have h : ∀ y : Nd, y.log = x.log → y.qs = x.qs → y.got = x.got → (y.tm = x.tm ∨ y.tm = 0) → (if y.st = 0 then y else { y with ck := wrap64 (y.ck + pickI p.s.drifts (11 * round + i) p.c.g) }).log = x.log ∧ (if y.st = 0 then y else { y with ck := wrap64 (y.ck + pickI p.s.drifts (11 * round + i) p.c.g) }).qs = x.qs ∧ (if y.st = 0 then y else { y with ck := wrap64 (y.ck + pickI p.s.drifts (11 * round + i) p.c.g) }).got = x.got ∧ ((if y.st = 0 then y else { y with ck := wrap64 (y.ck + pickI p.s.drifts (11 * round + i) p.c.g) }).tm = x.tm ∨ (if y.st = 0 then y else { y with ck := wrap64 (y.ck + pickI p.s.drifts (11 * round + i) p.c.g) }).tm = 0) := fun y a b c d => by
  split
  ·exact ⟨a, b, c, d⟩
  ·exact ⟨a, b, c, d⟩
 refine h _ ?_ ?_ ?_ ?_ <;> split <;> simp
theorem powN_sg (p : NtP) (round : Int) : ∀ (k : Nat) (nz : List Nz), Sg (powN p round k nz) nz
 | 0, nz => Sg.refl _
 | k + 1, nz => (Sg.set (powN p round k nz) k (powZ p round k (gz (powN p round k nz) k)) rfl (pow_kept p round k _).1 rfl (pow_kept p round k _).2.2.2).trans (powN_sg p round k nz)
theorem callZ_sg (p : NtP) (nz : List Nz) (x : S52) : Sg (callZ p nz x).1 nz := by
 unfold callZ
 split
 ·exact Sg.refl _
 ·split
  ·exact Sg.refl _
  ·exact Sg.set _ _ _ rfl rfl rfl (.inl rfl)
theorem hostN_sg (p : NtP) (round : Int) : ∀ (l : List S52) (nz : List Nz) (es : List Int), Sg (hostN p round l nz es).1 nz
 | [], nz, es => Sg.refl _
 | x :: r, nz, es => by
  rw [hostN]
  split
  ·exact (hostN_sg p round r _ _).trans (callZ_sg p nz x)
  ·exact hostN_sg p round r nz es
theorem frameZ_sg (p : NtP) (round : Int) (nz : List Nz) (i : Nat) (s : Int) : Sg (frameZ p round nz i s).2 nz := by
 unfold frameZ
 split
 ·exact Sg.refl _
 ·split
  ·exact Sg.set _ _ _ rfl rfl rfl (.inl rfl)
  ·exact Sg.refl _
theorem sendL_sg (p : NtP) (round s : Int) : ∀ (l : List Int) (nz : List Nz) (a b : List (List UInt8)), Sg (sendL p round s l nz a b).1 nz
 | [], nz, a, b => Sg.refl _
 | i :: r, nz, a, b => (sendL_sg p round s r _ _ _).trans (frameZ_sg p round nz i.toNat s)
theorem runZ_nz (p : NtP) (round : Int) (nz : List Nz) (s : Int) : (runZ p round nz s).1 = (sendL p round s (p.c.owners s) nz (List.replicate p.N []) []).1 := by
 unfold runZ
 simp only
 split <;> rfl
theorem runZ_sg (p : NtP) (round : Int) (nz : List Nz) (s : Int) : Sg (runZ p round nz s).1 nz := by
 rw [runZ_nz]
 exact sendL_sg p round s _ _ _ _
def slotsN (p : NtP) (round : Int) : Nat → List Nz → List Nz × List Sl
 | 0, nz => (nz, [])
 | k + 1, nz => ((runZ p round (slotsN p round k nz).1 k).1, (slotsN p round k nz).2 ++ [(runZ p round (slotsN p round k nz).1 k).2])
theorem slotsN_sg (p : NtP) (round : Int) : ∀ (k : Nat) (nz : List Nz), Sg (slotsN p round k nz).1 nz
 | 0, nz => Sg.refl _
 | k + 1, nz => (runZ_sg p round _ k).trans (slotsN_sg p round k nz)
theorem slotsN_len (p : NtP) (round : Int) : ∀ (k : Nat) (nz : List Nz), (slotsN p round k nz).2.length = k
 | 0, nz => rfl
 | k + 1, nz => by
  show ((slotsN p round k nz).2 ++ [_]).length = k + 1
  rw [List.length_append, slotsN_len p round k nz]; rfl
def hostsZ (p : NtP) (round : Int) (nz : List Nz) : List Nz × List Int := hostN p round p.s.calls (powN p round p.N (powR p round nz)) []
theorem hostsZ_sg (p : NtP) (round : Int) (nz : List Nz) : Sg (hostsZ p round nz).1 nz := (hostN_sg p round _ _ _).trans ((powN_sg p round _ _).trans (powR_sg p round nz))
def slotsZ (p : NtP) (round : Int) (nz : List Nz) : List Nz × List Sl := slotsN p round p.Q (hostsZ p round nz).1
def stepN (p : NtP) (round : Int) (nz : List Nz) : List Nd := (List.range p.N).map (endZ p round (slotsZ p round nz).1 (slotsZ p round nz).2)
theorem LgO.kp {W W' : World} {nz nz' : List Nz} (h : LgO W nz) (hs : Sg nz' nz) {F : Nat → Prop} (hk : Kp F W W') (hF : ∀ k, F k → ∃ cells T, W.heap[k]? = some (.cells cells T (0, 0)) ∧ T ≠ 57) : LgO W' nz' := fun x hx => by
 obtain ⟨j, hj, e⟩ := List.mem_iff_getElem.1 hx
 have e2 : gz nz' j = x := by rw [gz_at hj]; exact e
 have h1 := hs.2 j
 rw [e2] at h1
 rw [h1.1, h1.2.1]
 have hR := h _ (gz_mem (nz := nz) (j := j) (by rw [← hs.1]; exact hj))
 refine line_keep hR (fun g hg => ?_)
 obtain ⟨cells, hc⟩ := Kd.R_typed hR g hg
 refine hk.block g (blk_lt hc) (fun hf => ?_)
 obtain ⟨c2, T, h2, h3⟩ := hF g hf
 exact ne_of_types hc h2 (fun e => h3 e.symm) rfl
theorem FN.sg {nb : Nat} {a b : List Nz} (h : Sg a b) {k : Nat} (hk : FN nb a k) : FN nb b k := by
 rcases hk with e | ⟨z, hz, e⟩
 ·exact .inl e
 ·obtain ⟨j, hj, e2⟩ := List.mem_iff_getElem.1 hz
  refine .inr ⟨_, gz_mem (nz := b) (j := j) (by rw [← h.1]; exact hj), ?_⟩
  rw [e, ← e2, ← gz_at hj, (h.2 j).2.2.1]
theorem FL.sg {a b : List Nz} (h : Sg a b) {k : Nat} (hk : FL a k) : FL b k := by
 obtain ⟨z, hz, e⟩ := hk
 obtain ⟨j, hj, e2⟩ := List.mem_iff_getElem.1 hz
 refine ⟨_, gz_mem (nz := b) (j := j) (by rw [← h.1]; exact hj), ?_⟩
 rw [e, ← e2, ← gz_at hj, (h.2 j).1]
theorem nextSt_tm (c : Cf) (node st t heard : Int) (h0 : 0 ≤ t) : 0 ≤ (nextSt c node st t heard).2 ∧ (nextSt c node st t heard).2 ≤ t + 1 := by
 unfold nextSt
 (repeat' split) <;> (constructor <;> simp only <;> omega)
theorem endZ_tm (p : NtP) (round : Int) (nz : List Nz) (l : List Sl) (i : Nat) (h0 : 0 ≤ (gz nz i).1.tm) : 0 ≤ (endZ p round nz l i).tm ∧ (endZ p round nz l i).tm ≤ (gz nz i).1.tm + 1 := by
 unfold endZ
 split
 ·simp only; omega
 ·exact nextSt_tm _ _ _ _ _ h0
theorem endZ_log (p : NtP) (round : Int) (nz : List Nz) (l : List Sl) (i : Nat) : (endZ p round nz l i).log.length ≤ (gz nz i).1.log.length + p.Q := by
 unfold endZ
 split
 ·simp
 ·simp only
  split
  ·rw [List.length_append]
   unfold linesZ
   simp
  ·omega
theorem kSq_openM {w : World} {base : Nat} {ok : Nat → Prop} {x : Sq} {cs : List Value} (h : kSq.M w base ok x cs) : cs = x.cs := by
 obtain ⟨c1, c2, rfl, h1, d1, d2, rfl, h3, e1, e2, rfl, h5, h6⟩ := h
 obtain rfl : c1 = [x.1.v] := h1
 obtain rfl : d1 = [x.2.1.v] := h3
 obtain rfl : e1 = [x.2.2.1.v] := h5
 obtain rfl : e2 = [x.2.2.2.v] := h6
 rfl
theorem sq_keep {T base : Nat} {W W' : World} {v : Value} {xs : List Sq} {ok : Nat → Prop} (h : Kd.R kSq T W base ok v xs) (hb : ∀ g, v.ownBlock = some g → W'.heap[g]? = W.heap[g]?) : Kd.R kSq T W' base ok v xs := by
 obtain ⟨h0, inner, ho, hr⟩ := h
 refine ⟨h0, inner, ?_, ⟨hr.1, fun j x hj => ?_⟩⟩
 ·obtain ⟨h1, h2⟩ := ho
  refine ⟨h1, ?_⟩
  rcases h2 with h2 | ⟨g, cap, cur, hv, hg, hh, r⟩
  ·exact .inl h2
  ·refine .inr ⟨g, cap, cur, hv, hg, ?_, r⟩
   rw [hb g (by rw [hv]; rfl)]; exact hh
 ·have h3 := kSq_openM (hr.2 j x hj)
  rw [h3]
  exact kSq_mkM _ _ _ _
structure SR (p : NtP) (base : Nat) (W : World) (v : Value) (l : List Sl) : Prop where
 h : ∃ q : List Sq, Kd.R kSq 95 W base (fun _ => True) v q ∧ q.length = l.length ∧ ∀ (i : Nat) (x : Sq) (sl : Sl), q[i]? = some x → l[i]? = some sl → SlR W p.N sl x.1.v x.2.1.v x.2.2.1.v x.2.2.2.v
theorem SR.st {p : NtP} {base : Nat} {W : World} {v : Value} {l : List Sl} (h : SR p base W v l) : StR p W v l := by
 obtain ⟨q, h1, h2, h3⟩ := h.h
 exact ⟨q, RdT.of_R h1, h2, h3⟩
theorem SR.keep {p : NtP} {base : Nat} {W W' : World} {v : Value} {l : List Sl} (h : SR p base W v l) {F : Nat → Prop} (hk : Kp F W W') (hF : ∀ k cells T, F k → W.heap[k]? = some (.cells cells T (0, 0)) → T ≠ 95 ∧ T ≠ 9 ∧ T ≠ 127 ∧ T ≠ 128 ∧ T ≠ 117 ∧ T ≠ 55) : SR p base W' v l := by
 obtain ⟨q, h1, h2, h3⟩ := h.h
 refine ⟨q, sq_keep h1 (fun g hg => ?_), h2, fun i x sl a b => (h3 i x sl a b).keep hk (fun k cells T hf hc => (hF k cells T hf hc).2)⟩
 obtain ⟨cells, hc⟩ := Kd.R_typed h1 g hg
 exact hk.block g (blk_lt hc) (fun hf => (hF g cells _ hf hc).1 rfl)
theorem SR.nil (p : NtP) (base : Nat) (W : World) : SR p base W (.slice none 0 0) [] := ⟨[], Kd.R_nil _ _ _ _ _, rfl, fun i x sl a _ => by simp at a⟩
def FS (p : NtP) (nb : Nat) (nz : List Nz) (k : Nat) : Prop := k = p.g ∨ k = nb ∨ (∃ z ∈ nz, k = z.2.qb) ∨ FL nz k
structure NI (p : NtP) (W : World) (nb : Nat) (round : Int) (nz : List Nz) (sl : List Sl) (es : List Int) : Prop where
 h : ∃ sv cv, NB p W nb round nz sv cv ∧ StR p W sv sl ∧ RdT (Kd.int .i64) 39 W cv es
 lo : LgO W nz
 tm : ∀ z ∈ nz, (0 ≤ z.1.tm ∧ z.1.tm ≤ round) ∧ (z.1.log.length : Int) ≤ 15 * round
theorem info_slot9 : (Tryz.prog.info? 95).map (fun i => (i.zero, i.size, i.bytes)) = some (some (.agg #[.slice none 0 0, .slice none 0 0, .slice none 0 0, .slice none 0 0]), 4, 96) := by kernel_rfl
theorem NI.below {p : NtP} {W W' : World} {nb : Nat} {round : Int} {nz : List Nz} {sl : List Sl} {es : List Int} (h : NI p W nb round nz sl es) (hb : Below W.heap.size W W') : NI p W' nb round nz sl es := by
 obtain ⟨sv, cv, h1, h2, h3⟩ := h.h
 exact ⟨⟨sv, cv, h1.below hb, h2.below hb, h3.below hb⟩, fun x hx => Kd.R_below (h.lo x hx) hb, h.tm⟩
end Go.Proofs.YtgcgglmmfgmaoaaGreat.PK
end
section
namespace Go.Proofs.YtgcgglmmfgmaoaaGreat.PK
open Go Go.RowKit Go.Proofs.YtgcgglmmfgmaoaaGreatW.PrintWords Go.Proofs.YtgcgglmmfgmaoaaGreatW.PrintLast Go.Proofs.YtgcgglmmfgmaoaaGreatW.PrintMore
attribute [local go_sem] max2_int min2_int max_two min_two
theorem net_Step_done (p : NtP) (nb : Nat) (round : Int) (nz : List Nz) (sl : List Sl) (es : List Int) (w : World) (h : NI p w nb round nz sl es) (hge : p.s.rounds ≤ round) :
  Calls Tryz.prog 19 #[.pointer (some ⟨p.g, 0, none⟩)] w fun e w' => e = .returned (.bool false) ∧ Below w.heap.size w w' := by
 obtain ⟨sv, cv, hN, hS, hC⟩ := h.h
 have gg := hN.gcells
 have q0 := decide_eq_true hge
 clear h hN hS hC hge
 go_enter Tryz.func19, Tryz.ntmps19
 go_upto_region 1 with (fail)
 have HN := am (below_drew (Below.refl w.heap.size w))
 refine startB (n := 10) (F := fun _ => False) (ds := []) (by kernel_rfl) rfl (fun hHeld => ?_)
 refine plan_ [.p 0 5, .p 1 6, .p 2 7, .t 3 8, .p 4 9, .p 5 10, .p 6 11, .p 7 12, .t 8 13, .p 9 14] ?_
 repeat (first | refine jP ?_ | refine jW hHeld ?_ | refine jG ?_)
 refine planE ?_
 refine done_ (by kernel_rfl) ?_
 clear gg
 go_wp2
 go_ret
 exact ⟨rfl, HN.out⟩
theorem net_Step_go (p : NtP) (ok0 : p.OK) (nb : Nat) (round : Int) (hr0 : 0 ≤ round) (nz : List Nz) (sl : List Sl) (es : List Int) (w : World) (h : NI p w nb round nz sl es) (hlt : round < p.s.rounds) :
  Calls Tryz.prog 19 #[.pointer (some ⟨p.g, 0, none⟩)] w fun e w' => e = .returned (.bool true) ∧ (∃ nb' nz', NI p w' nb' (round + 1) nz' (slotsZ p round nz).2 (hostsZ p round nz).2 ∧ nz'.map (fun z => z.1) = stepN p round nz ∧ ∀ k, FS p nb' nz' k → FS p nb nz k ∨ w.heap.size ≤ k) ∧ Kp (FS p nb nz) w w' := by
 have ok := am ok0
 obtain ⟨sv, cv, hN, hS, hC⟩ := h.h
 have HH := am hN
 have HTM := am h.tm
 have HLW := am h.lo
 have hr1 : round ≤ 200 := by have := ok0.hs.r1; omega
 have hr := am (And.intro hr0 hr1)
 have hN12 := am (show p.N ≤ 12 ∧ p.Q ≤ 15 ∧ p.c.slots = p.Q by have := ok0.hc.n12; have := ok0.hN; have := slots_range ok0.hc; have := ok0.hQ; omega)
 have KP := am (fun W hW => net_power p ok0 nb round hr0 (by omega) nz sv cv W hW)
 obtain ⟨nz1, hz1⟩ : ∃ nz1, powN p round p.N (powR p round nz) = nz1 := ⟨_, rfl⟩
 have sg1 := (powN_sg p round p.N _).trans (powR_sg p round nz)
 have hq2 : hostsZ p round nz = hostN p round p.s.calls nz1 [] := by unfold hostsZ; rw [hz1]
 rw [hz1] at KP sg1
 have KH := am (fun W hW => net_hosts p ok0 nb round nz1 sv cv W hW)
 have sg2 := (hostN_sg p round p.s.calls nz1 []).trans sg1
 rw [← hq2] at KH sg2
 obtain ⟨⟨nz2, es2⟩, hz2⟩ : ∃ z, hostsZ p round nz = z := ⟨_, rfl⟩
 rw [hz2] at KH sg2 ⊢
 have hsz : slotsZ p round nz = slotsN p round p.Q nz2 := by unfold slotsZ; rw [hz2]
 have hst : stepN p round nz = (List.range p.N).map (endZ p round (slotsN p round p.Q nz2).1 (slotsN p round p.Q nz2).2) := by unfold stepN; rw [hsz]
 rw [hst, hsz]
 have SGH := am (show Sg nz2 nz1 from by have h9 := hostN_sg p round p.s.calls nz1 []; rw [← hq2, hz2] at h9; exact h9)
 have SG1 := am sg1
 have SG2 := am sg2
 have KS := am (fun W hW => slots_calls p.c ok0.hc p.A p.m W hW)
 simp only at KH sg2 ⊢
 have gg := hN.gcells
 have q0 := decide_eq_false (show ¬ p.s.rounds ≤ round by omega)
 clear h hN hS hC hlt hz1 hq2 hz2 hsz hst sg1 sg2 hr0 hr1 ok0
 go_enter Tryz.func19, Tryz.ntmps19
 go_upto_region 1 with (fail)
 have HN := am (below_drew (Below.refl w.heap.size w))
 refine startB (n := 10) (F := fun _ => False) (ds := []) (by kernel_rfl) rfl (fun hHeld => ?_)
 refine plan_ [.p 0 5, .p 1 6, .p 2 7, .t 3 8, .p 4 9, .p 5 10, .p 6 11, .p 7 12, .t 8 13, .p 9 14] ?_
 repeat (first | refine jP ?_ | refine jW hHeld ?_ | refine jG ?_)
 refine planE ?_
 refine done_ (by kernel_rfl) ?_
 have N0 := am (HH.out.below HN.out)
 have K0 := am (Kp.of (F := FS p nb nz) HN.out)
 have L0 := am (show LgO w.drew nz from HLW.out.kp (Sg.refl _) (F := fun _ => False) (Kp.of HN.out) (fun k hf => hf.elim))
 clear gg HN
 generalize w.drew = W0 at *
 go_upto_region 5 with (first
  | (go_at_call 42; refine (KP.out _ N0.out).mono ?_; rintro e W1 ⟨rfl, hn, hk⟩; have N1 := am hn; have L1 := am (L0.out.kp SG1.out hk (fun k hf => by obtain ⟨cells, T, hc, hT⟩ := FN.qt N0.out k hf; exact ⟨cells, T, hc, by rcases hT with e | e <;> rw [e] <;> decide⟩)); have K1 := am (K0.out.trans (hk.mono (fun k _ hf => show FS p nb nz k from by rcases hf with e | e; exact .inr (.inl e); exact .inr (.inr (.inl e))))); clear hn hk)
  | (go_at_call 43; refine (KH.out _ N1.out).mono ?_; rintro e W2 ⟨rfl, ⟨cv2, hn, hR⟩, hk⟩; have N2 := am hn; have C2 := am (RdT.of_R hR); have hF2 : ∀ k, FH p nb nz1 k → ∃ cells T, W1.heap[k]? = some (.cells cells T (0, 0)) ∧ T ≠ 57 := (fun k hf => by
    rcases hf with e | e
    ·subst e; exact ⟨_, _, N1.out.hg, by decide⟩
    ·obtain ⟨cells, T, hc, hT⟩ := FN.qt N1.out k e
     exact ⟨cells, T, hc, by rcases hT with e | e <;> rw [e] <;> decide⟩); have L2 := am (L1.out.kp SGH.out hk hF2); have K2 := am (K1.out.trans (hk.mono (fun k _ hf => show FS p nb nz k from by
    rcases hf with e | e
    ·exact .inl e
    ·rcases FN.sg SG1.out e with e | e
     ·exact .inr (.inl e)
     ·exact .inr (.inr (.inl e))))); clear hn hR hk hF2))
 clear KP KH N1 L1 K1 N0 L0 K0
 have y19 := (blk_cell N2.out.hg 19).trans rfl
 have yf19 := blk_frozen N2.out.hg 19
 go_upto_region 6 with (fail)
 have kg := (Kp.refl (fun k => k = p.g) W2).set_ (p := ⟨p.g, 19, none⟩) (.inl rfl) (.slice none 0 0)
 have N3 := am (N2.out.gput (cv' := cv2) (round' := round) (sv' := .slice none 0 0) kg (fun k e => e) (blk_put N2.out.hg 19 (.slice none 0 0) (by rfl)))
 have L3 := am (L2.out.kp (Sg.refl _) kg (fun k e => by subst e; exact ⟨_, _, N2.out.hg, by decide⟩))
 have C3 := am (C2.out.kp plain_int kg (fun k cells e hc => by subst e; exact ne_of_types N2.out.hg hc (by decide) rfl))
 have K3 := am (K2.out.trans (kg.mono (fun k _ e => show FS p nb nz k from .inl e)))
 clear y19 yf19 kg N2 L2 C2 K2
 generalize W2.setCell ⟨p.g, 19, none⟩ (.slice none 0 0) = W3 at *
 have gg := N3.out.gcells
 go_wp2_with (go_at_call 41; refine (KS.out _ N3.out.im.C).mono ?_; rintro e W4 ⟨rfl, hb⟩; have n1 := am (N3.out.below hb); have n2 := am (L3.out.kp (Sg.refl _) (F := fun _ => False) (Kp.of hb) (fun k hf => hf.elim)); have n3 := am (C3.out.below hb); have n4 := am (K3.out.then_ hb); clear N3 L3 C3 K3 hb gg KS; have N3 := n1; have L3 := n2; have C3 := n3; have K3 := n4; clear n1 n2 n3 n4)
 go_loopw [27] (fun v w' => ∃ s : Nat, v = .int .i64 s ∧ s ≤ p.Q ∧ Aside0 (∃ svx, NB p w' nb round (slotsN p round s nz2).1 svx cv2 ∧ SR p w.heap.size w' svx (slotsN p round s nz2).2) ∧ Aside0 (LgO w' (slotsN p round s nz2).1) ∧ Aside0 (RdT (Kd.int .i64) 39 w' cv2 es2) ∧ Aside0 (Kp (FS p nb nz) w w')) (fun v _ => p.Q - (intOf v).toNat)
 case atStart => exact ⟨0, rfl, Nat.zero_le _, ⟨.slice none 0 0, N3.out, SR.nil _ _ _⟩, L3, C3, K3⟩
 case round =>
  clear N3 L3 C3 K3
  obtain ⟨s, rfl, hs, hNS, HLO, HCV, HK⟩ := hrel
  obtain ⟨svx, hNX, hSX⟩ := hNS.out
  by_cases hlt : s < p.Q
  ·have hlt9 := am hlt
   have hs15 : s ≤ 15 := by have := hN12.out; omega
   have q2 := eq_true (show ((s : Int) < p.c.slots) by have := hN12.out; omega)
   have hss : slotsN p round (s + 1) nz2 = ((runZ p round (slotsN p round s nz2).1 s).1, (slotsN p round s nz2).2 ++ [(runZ p round (slotsN p round s nz2).1 s).2]) := rfl
   have hsl := slotsN_len p round s nz2
   have hsg := slotsN_sg p round s nz2
   obtain ⟨⟨nzx, sls⟩, hnx⟩ : ∃ z, slotsN p round s nz2 = z := ⟨_, rfl⟩
   rw [hnx] at hNX hSX HLO hss hsl hsg
   simp only at hNX hSX HLO hss hsl hsg
   have NX := am hNX
   have HSR := am hSX
   have HSS := am hss
   have hssl := am hsl
   have HSG := am hsg
   have KR := am (fun W hW => net_run p ok.out nb round hr.out.1 (by have := hr.out.2; omega) nzx svx cv2 s (by omega) (by omega) W hW)
   obtain ⟨A0, n0, c0, e0⟩ : ∃ A n c, svx = .slice A n c := by
    obtain ⟨q, hq, -⟩ := hSX.h
    obtain ⟨A, c, e⟩ := Kd.R_slice hq
    exact ⟨A, _, c, e⟩
   subst e0
   have hFNt := am (show ∀ k cells T, FN nb nzx k → wr.heap[k]? = some (.cells cells T (0, 0)) → T ≠ 95 ∧ T ≠ 9 ∧ T ≠ 127 ∧ T ≠ 128 ∧ T ≠ 117 ∧ T ≠ 55 from fun k cells T hf hc => by
    obtain ⟨c2, T2, h2, hT⟩ := FN.qt hNX k hf
    rw [hc] at h2
    simp only [Option.some.injEq, Obj.cells.injEq] at h2
    obtain ⟨-, rfl, -⟩ := h2
    rcases hT with e | e <;> subst e <;> decide)
   have nfg := am (show ¬ FN nb nzx p.g from fun hf => by
    obtain ⟨c2, T2, h2, hT⟩ := FN.qt hNX _ hf
    exact ne_of_types hNX.hg h2 (by rcases hT with e | e <;> rw [e] <;> decide) rfl)
   have HKW := am HK.out.size
   have gg := NX.out.gcells
   clear hNX hSX hNS hss hsl hsg hnx hlt hs
   go_upto_region 9 with (fail)
   refine startB (n := 13) (F := FN nb nzx) (ds := [9, 12]) (by kernel_rfl) rfl (fun hHeld => ?_)
   refine plan_ [.p 0 30, .p 1 31, .p 2 32, .p 3 33, .t 4 34, .p 5 35, .p 6 36] ?_
   repeat (first | refine jP ?_ | refine jW (hF := by first | exact nfg.out) hHeld ?_ | refine jG ?_)
   refine planE ?_
   refine jO 7 (some 37) (fun K hK => ?_)
   refine kC Tryz.func44 #[.pointer (some ⟨p.g, 0, none⟩), .int .i64 s] ?_
   refine (KR.out _ (NX.out.below (below_drew (Below.refl wr.heap.size wr)))).mono ?_
   rintro e W3 ⟨⟨v1, v2, v3, v4, rfl, hsl⟩, hn, hk⟩
   obtain ⟨A1, m1, k1, e1⟩ : ∃ A m k, v1 = .slice A m k := by obtain ⟨A, k, e, -⟩ := id hsl.sent; exact ⟨A, _, k, e⟩
   obtain ⟨A2, m2, k2, e2⟩ : ∃ A m k, v2 = .slice A m k := by obtain ⟨A, k, e, -⟩ := id hsl.up; exact ⟨A, _, k, e⟩
   obtain ⟨A3, m3, k3, e3⟩ : ∃ A m k, v3 = .slice A m k := by obtain ⟨A, k, e, -⟩ := id hsl.down; exact ⟨A, _, k, e⟩
   obtain ⟨tb, e4⟩ : ∃ tb, v4 = .slice (some ⟨tb, 0, none⟩) p.N p.N := by obtain ⟨tb, e, -⟩ := id hsl.took; exact ⟨tb, e⟩
   subst e1 e2 e3 e4
   have hHeld2 := hHeld.trans hk
   have H3 := am hn
   have K3 := am hHeld2
   have HSL := am hsl
   have HSR3 := am (HSR.out.keep K3.out (fun k cells T hf hc => hFNt.out k cells T hf hc))
   have HLO3 := am (HLO.out.kp (runZ_sg p round nzx s) K3.out (fun k hf => by
    obtain ⟨cells, T, hc, hT⟩ := FN.qt NX.out k hf
    exact ⟨cells, T, hc, by rcases hT with e | e <;> rw [e] <;> decide⟩))
   have HCV3 := am (HCV.out.kp plain_int K3.out (fun k cells hf hc => by
    obtain ⟨c2, T, h2, hT⟩ := FN.qt NX.out k hf
    exact ne_of_types hc h2 (by rcases hT with e | e <;> rw [e] <;> decide) rfl))
   clear hn hk hHeld hHeld2 hsl HSR
   refine ⟨_, rfl, ?_⟩
   refine hK.out _ _ (K3.out) (fun hHeld => ?_)
   clear hK K
   refine jM 37 ?_
   refine jO 8 (some 38) (fun K hK => ?_)
   clear hHeld
   refine value_ (v := .slice (some ⟨W3.heap.size, 0, none⟩) 1 1) (w1 := W3.alloc (.cells #[.slice A1 m1 k1, .slice A2 m2 k2, .slice A3 m3 k3, .slice (some ⟨tb, 0, none⟩) p.N p.N] 95)) (by rfl) rfl (by go_simp; try rfl) ?_
   refine hK.out _ _ (K3.out.then_ (b_al W3 _)) (fun hHeld => ?_)
   clear hK K
   refine jM 38 ?_
   refine jL 9 (some 39) (fun K hK => ?_)
   clear hHeld
   obtain ⟨q, hqR, hqn, hqs⟩ := HSR3.out.h
   obtain ⟨A8, c8, e8⟩ := Kd.R_slice hqR
   have HQR := am hqR
   have HQS := am (And.intro hqn hqs)
   rw [hssl.out] at hqn
   have e8' : (Value.slice A0 n0 c0) = .slice A8 q.length c8 := e8
   injection e8' with ea eb ec
   subst ea eb ec
   refine Kd.R_append_step kSq (w0 := W3) (W := W3) w.heap.size (by rfl) (.tmp 34) (.tmp 38) 85 95 (.agg #[.slice none 0 0, .slice none 0 0, .slice none 0 0, .slice none 0 0]) 96 rfl Tryz.underlying85 info_slot9 rfl (by decide) (by omega) _ q (((A1, m1, k1), (A2, m2, k2), (A3, m3, k3), (some ⟨tb, 0, none⟩, p.N, p.N)) : Sq) [.slice A1 m1 k1, .slice A2 m2 k2, .slice A3 m3 k3, .slice (some ⟨tb, 0, none⟩) p.N p.N] (fun _ => True) (fun _ => False) rfl rfl (kSq_mkM _ _ _ (((A1, m1, k1), (A2, m2, k2), (A3, m3, k3), (some ⟨tb, 0, none⟩, p.N, p.N)) : Sq)) (fun _ h => h.elim) (fun _ _ => trivial) HQR.out (Below.refl _ _) (Nat.le_trans HKW.out K3.out.size) (by have := hs15; omega) ?_
   intro v4 W4 hR4 _ hg4 _
   have HR4 := am hR4
   have HG4 := am hg4
   obtain ⟨A4, c4, e9⟩ := Kd.R_slice hR4
   clear hR4 hg4 hqR hqs e8 hqn
   subst e9
   refine hK.out _ _ ?_
   clear hK K
   refine jM 39 ?_
   refine plan_ [.p 10 40, .p 11 41] ?_
   repeat (first | refine jP ?_ | refine jW (hF := by first | exact nfg.out) hHeld ?_ | refine jG ?_)
   refine planE ?_
   refine jL 12 none (fun K hK => ?_)
   have hOwn := am (show ∀ k, some k = (Value.slice A0 q.length c0).ownBlock → ∃ cells, W3.heap[k]? = some (.cells cells 95 (0, 0)) from fun k hk => Kd.R_typed HQR.out k hk.symm)
   have N4 := H3.out.other (W' := W4) (F := fun k => some k = (Value.slice A0 q.length c0).ownBlock) (Kp.grown_own HG4.out) (fun k hk => by obtain ⟨cells, hc⟩ := hOwn.out k hk; exact ⟨cells, _, hc, by simp [OT]⟩)
   have y0 := (blk_cell N4.hg 19).trans rfl
   have yf := blk_frozen N4.hg 19
   refine skip_ (w1 := W4.setCell ⟨p.g, 19, none⟩ (.slice A4 (q ++ [(((A1, m1, k1), (A2, m2, k2), (A3, m3, k3), (some ⟨tb, 0, none⟩, p.N, p.N)) : Sq)]).length c4)) (by rfl) rfl (by go_simp; try rfl) ?_
   refine hK.out _ _ ?_
   clear hK K
   refine done_ (by kernel_rfl) ?_
   have kx := Kp.grown_own HG4.out
   have kg := (Kp.refl (fun k => k = p.g) W4).set_ (p := ⟨p.g, 19, none⟩) (.inl rfl) (.slice A4 (q ++ [(((A1, m1, k1), (A2, m2, k2), (A3, m3, k3), (some ⟨tb, 0, none⟩, p.N, p.N)) : Sq)]).length c4)
   have N5 := am (N4.gput (cv' := cv2) (round' := round) (sv' := .slice A4 (q ++ [(((A1, m1, k1), (A2, m2, k2), (A3, m3, k3), (some ⟨tb, 0, none⟩, p.N, p.N)) : Sq)]).length c4) kg (fun k e => e) (blk_put N4.hg 19 _ (by rfl)))
   have L4 := HLO3.out.kp (Sg.refl _) kx (fun k hk => by
    obtain ⟨cells, hc⟩ := hOwn.out k hk
    exact ⟨cells, _, hc, by decide⟩)
   have L5 := am (L4.kp (Sg.refl _) kg (fun k e => by subst e; exact ⟨_, _, N4.hg, by decide⟩))
   have C4 := HCV3.out.kp plain_int kx (fun k cells hf hc => by
    obtain ⟨c2, h2⟩ := hOwn.out k hf
    exact ne_of_types hc h2 (by decide) rfl)
   have C5 := am (C4.kp plain_int kg (fun k cells e hc => by subst e; exact ne_of_types N4.hg hc (by decide) rfl))
   have K5 := am ((((HK.out.trans (K3.out.mono (fun k _ hf => show FS p nb nz k from by
    rcases FN.sg (HSG.out.trans SG2.out) hf with e | e
    ·exact .inr (.inl e)
    ·exact .inr (.inr (.inl e))))).grown HG4.out (fun k e => .inr (R_base HQR.out k e)))).trans (kg.mono (fun k _ e => show FS p nb nz k from .inl e)))
   have S5 := am (show SR p w.heap.size (W4.setCell ⟨p.g, 19, none⟩ (.slice A4 (q ++ [(((A1, m1, k1), (A2, m2, k2), (A3, m3, k3), (some ⟨tb, 0, none⟩, p.N, p.N)) : Sq)]).length c4)) (.slice A4 (q ++ [(((A1, m1, k1), (A2, m2, k2), (A3, m3, k3), (some ⟨tb, 0, none⟩, p.N, p.N)) : Sq)]).length c4) (sls ++ [(runZ p round nzx s).2]) from by
    have ks : ∀ {sl : Sl} {v1 v2 v3 v4 : Value}, SlR W3 p.N sl v1 v2 v3 v4 → SlR (W4.setCell ⟨p.g, 19, none⟩ (.slice A4 (q ++ [(((A1, m1, k1), (A2, m2, k2), (A3, m3, k3), (some ⟨tb, 0, none⟩, p.N, p.N)) : Sq)]).length c4)) p.N sl v1 v2 v3 v4 := fun h => (h.keep kx (fun k cells T hf hc => by
     obtain ⟨c2, h2⟩ := hOwn.out k hf
     rw [hc] at h2
     simp only [Option.some.injEq, Obj.cells.injEq] at h2
     obtain ⟨-, rfl, -⟩ := h2
     decide)).keep kg (fun k cells T hf hc => by
     subst hf
     have h2 := N4.hg
     rw [hc] at h2
     simp only [Option.some.injEq, Obj.cells.injEq] at h2
     obtain ⟨-, rfl, -⟩ := h2
     decide)
    refine ⟨_, sq_keep HR4.out (fun g hg => ?_), by rw [List.length_append, List.length_append, HQS.out.1]; rfl, fun i x sl ha hb => ?_⟩
    ·obtain ⟨cells, hc⟩ := Kd.R_typed HR4.out g hg
     exact kg.block g (blk_lt hc) (fun e => ne_of_types N4.hg hc (by decide) e.symm)
    ·by_cases hi : i < q.length
     ·rw [List.getElem?_append_left hi] at ha
      rw [List.getElem?_append_left (by rw [← HQS.out.1]; exact hi)] at hb
      exact ks (HQS.out.2 i x sl ha hb)
     ·have hiq : i = q.length := by
       have := (List.getElem?_eq_some_iff.1 ha).1
       rw [List.length_append, List.length_singleton] at this
       omega
      subst hiq
      rw [List.getElem?_append_right (Nat.le_refl _), Nat.sub_self] at ha
      rw [HQS.out.1, List.getElem?_append_right (Nat.le_refl _), Nat.sub_self] at hb
      obtain rfl := Option.some.inj ha
      obtain rfl := Option.some.inj hb
      exact ks HSL.out)
   clear N4 HR4 HG4 H3 K3 HSL HSR3 HLO3 HCV3 HQR HQS hOwn kx kg L4 C4 y0 yf gg HK
   generalize W4.setCell ⟨p.g, 19, none⟩ (.slice A4 (q ++ [(((A1, m1, k1), (A2, m2, k2), (A3, m3, k3), (some ⟨tb, 0, none⟩, p.N, p.N)) : Sq)]).length c4) = W6 at *
   go_wp2
   go_roundw
   case rel => exact ⟨s + 1, by simp, hlt9.out, ⟨_, by rw [HSS.out]; exact N5.out, by rw [HSS.out]; exact S5.out⟩, by rw [HSS.out]; exact L5, C5, K5⟩
   case measure => have := hlt9.out; simp [intOf]; omega
  ·obtain rfl : s = p.Q := by omega
   have hll := slotsN_len p round p.Q nz2
   have hsg := (slotsN_sg p round p.Q nz2).trans SG2.out
   obtain ⟨⟨nzF, slF⟩, hFz⟩ : ∃ z, slotsN p round p.Q nz2 = z := ⟨_, rfl⟩
   rw [hFz] at hNX hSX HLO hll hsg
   simp only at hNX hSX HLO hll hsg
   have HFZ := am hFz
   have htmF : ∀ z ∈ nzF, ((0 ≤ z.1.tm ∧ z.1.tm ≤ round) ∧ (z.1.log.length : Int) ≤ 15 * round) := fun z hz => by
    obtain ⟨j, hj, e⟩ := List.mem_iff_getElem.1 hz
    have e2 : gz nzF j = z := by rw [gz_at hj]; exact e
    have h1 := hsg.2 j
    rw [e2] at h1
    have h2 := HTM.out _ (gz_mem (nz := nz) (j := j) (by rw [← hsg.1]; exact hj))
    have := hr.out.1
    rw [h1.2.1]
    refine ⟨?_, h2.2⟩
    rcases h1.2.2.2 with e3 | e3 <;> rw [e3]
    ·exact h2.1
    ·omega
   have KE := am (each_nodes p ok.out nb round hr.out.1 (by have := hr.out.2; omega) nzF svx cv2 slF hll wr hNX hSX.st HLO.out (fun z hz => by
    have h7 := htmF z hz
    have := hr.out.2
    exact ⟨⟨h7.1.1, by omega⟩, by omega⟩))
   have NX := am hNX
   have SX := am hSX.st
   have HTF := am htmF
   have HSG := am hsg
   have HLL := am hll
   have q2 := eq_false (show ¬ ((p.Q : Int) < p.c.slots) by have := hN12.out; omega)
   clear hNX hSX hNS hlt hs hFz hll hsg htmF
   go_upto_region 12 with (go_at_call 45; refine KE.out.mono ?_; rintro e W6 ⟨nb', nz', rfl, hzl, hEN⟩; have HEN := am hEN; have HZL := am hzl; clear hEN hzl)
   have hFt := am (show ∀ k, FL nzF k → ∃ cells, wr.heap[k]? = some (.cells cells 57 (0, 0)) from fun k ⟨z, hz, e⟩ => Kd.R_typed (HLO.out z hz) k e.symm)
   have G6 := am (HEN.out.hk.blk NX.out.hg (fun hf => by
    obtain ⟨cells, hc⟩ := hFt.out _ hf
    exact ne_of_types NX.out.hg hc (by decide) rfl))
   have y18 := (blk_cell G6.out 18).trans rfl
   have yf18 := blk_frozen G6.out 18
   go_upto_region 13 with (fail)
   have kg1 := am ((Kp.refl (fun k => k = p.g) W6).set_ (p := ⟨p.g, 18, none⟩) (.inl rfl) (.slice (some ⟨nb', 0, none⟩) p.N p.N))
   have G7 := am (blk_put G6.out 18 (.slice (some ⟨nb', 0, none⟩) p.N p.N) (cs' := (p.cells round nb' svx cv2).toArray) (by rfl))
   clear y18 yf18
   generalize W6.setCell ⟨p.g, 18, none⟩ (.slice (some ⟨nb', 0, none⟩) p.N p.N) = W7 at *
   have y17 : W7.cell? ⟨p.g, 17, none⟩ = some (.int .i64 round) := (blk_cell G7.out 17).trans rfl
   have yf17 := blk_frozen G7.out 17
   have hr0 := hr.out.1
   have hr1 := hr.out.2
   go_wp2
   have kg2 := am (kg1.out.set_ (p := ⟨p.g, 17, none⟩) (.inl rfl) (.int .i64 (round + 1)))
   have G8 := am (blk_put G7.out 17 (.int .i64 (round + 1)) (cs' := (p.cells (round + 1) nb' svx cv2).toArray) (by rfl))
   generalize W7.setCell ⟨p.g, 17, none⟩ (.int .i64 (round + 1)) = W8 at *
   go_ret
   rw [HFZ.out]
   simp only
   have hE := HEN.out
   have hN0 : nzF.length - nz'.length = 0 := by rw [NX.out.hl, HZL.out]; omega
   have hn := hE.hn
   rw [hN0] at hn
   have hn' : W6.heap[nb']? = some (.cells (ndsV p.Q nz').toArray 90 (0, 0)) := by
    rw [hn]
    unfold fillN
    simp
   have hft6 : FT (FL nzF) wr := fun k hf => by
    obtain ⟨cells, hc⟩ := hFt.out k hf
    exact ⟨cells, _, hc, by simp [MT]⟩
   have hft8 : FT (fun k => k = p.g) W6 := fun k e => by subst e; exact ⟨_, _, G6.out, by simp [MT]⟩
   have hsw : w.heap.size ≤ wr.heap.size := HK.out.size
   refine ⟨rfl, ⟨nb', nz', ⟨⟨svx, cv2, ⟨G8.out, kg2.out.blk hn' (fun e => ne_of_types hn' G6.out (by decide) e), HZL.out, fun x hx => (hE.hx x hx).mt kg2.out hft8 (fun e => ne_of_types (hE.hx x hx).hq G6.out (by decide) e), hE.ha, (NX.out.im.mt hE.hk hft6).mt kg2.out hft8⟩, ?_, ?_⟩, ?_, fun z hz => ?_⟩, ?_, fun k hk => ?_⟩, ?_⟩
   ·refine (SX.out.keep hE.hk (fun k cells T hf hc => ?_)).keep kg2.out (fun k cells T hf hc => ?_)
    ·obtain ⟨c2, h2⟩ := hFt.out k hf
     rw [hc] at h2
     simp only [Option.some.injEq, Obj.cells.injEq] at h2
     obtain ⟨-, rfl, -⟩ := h2
     decide
    ·subst hf
     have h2 := G6.out
     rw [hc] at h2
     simp only [Option.some.injEq, Obj.cells.injEq] at h2
     obtain ⟨-, rfl, -⟩ := h2
     decide
   ·refine (HCV.out.kp plain_int hE.hk (fun k cells hf hc => ?_)).kp plain_int kg2.out (fun k cells e hc => ?_)
    ·obtain ⟨c2, h2⟩ := hFt.out k hf
     exact ne_of_types hc h2 (by decide) rfl
    ·subst e
     exact ne_of_types G6.out hc (by decide) rfl
   ·exact LgO.kp hE.hr (Sg.refl _) kg2.out (fun k e => by subst e; exact ⟨_, _, G6.out, by decide⟩)
   ·obtain ⟨j, hj, e⟩ := List.mem_iff_getElem.1 hz
    have e2 : gz nz' j = z := by rw [gz_at hj]; exact e
    have h1 := (hE.hz j hj).1
    rw [e2] at h1
    have h2 := HTF.out _ (gz_mem (nz := nzF) (j := j) (by rw [NX.out.hl, ← HZL.out]; exact hj))
    have h3 := endZ_tm p round nzF slF j h2.1.1
    have h4 := endZ_log p round nzF slF j
    have := hN12.out
    rw [h1]
    omega
   ·apply List.ext_getElem
    ·simp [HZL.out]
    ·intro j h1 h2
     have hj : j < nz'.length := by simpa using h1
     have h3 := (hE.hz j hj).1
     rw [gz_at hj] at h3
     simp only [List.getElem_map, List.getElem_range]
     exact h3
   ·rcases hk with e | e | ⟨z, hz, e⟩ | ⟨z, hz, e⟩
    ·exact .inl (.inl e)
    ·subst e
     exact .inr (Nat.le_trans hsw hE.hw)
    ·obtain ⟨j, hj, e2⟩ := List.mem_iff_getElem.1 hz
     have h3 := (hE.hz j hj).2.1
     rw [gz_at hj, e2, ← e] at h3
     rcases FN.sg HSG.out (nb := nb) (k := k) (.inr ⟨_, gz_mem (nz := nzF) (j := j) (by rw [NX.out.hl, ← HZL.out]; exact hj), h3⟩) with e4 | e4
     ·exact .inl (.inr (.inl e4))
     ·exact .inl (.inr (.inr (.inl e4)))
    ·obtain ⟨j, hj, e2⟩ := List.mem_iff_getElem.1 hz
     have h3 := (hE.hz j hj).2.2
     rw [gz_at hj, e2, ← e] at h3
     rcases h3 with h3 | ⟨b, h3, hb⟩
     ·exact .inl (.inr (.inr (.inr (FL.sg HSG.out ⟨_, gz_mem (nz := nzF) (j := j) (by rw [NX.out.hl, ← HZL.out]; exact hj), h3⟩))))
     ·obtain rfl := Option.some.inj h3
      exact .inr (Nat.le_trans hsw hb)
   ·exact (HK.out.trans (hE.hk.mono (fun k _ hf => show FS p nb nz k from .inr (.inr (.inr (FL.sg HSG.out hf)))))).trans (kg2.out.mono (fun k _ e => show FS p nb nz k from .inl e))
end Go.Proofs.YtgcgglmmfgmaoaaGreat.PK
end
section
namespace Go.Proofs.YtgcgglmmfgmaoaaGreat.PK
open Go Go.RowKit Go.Proofs.YtgcgglmmfgmaoaaGreatW.PrintWords Go.Proofs.YtgcgglmmfgmaoaaGreatW.PrintLast Go.Proofs.YtgcgglmmfgmaoaaGreatW.PrintMore
attribute [local go_sem] max2_int min2_int max_two min_two
def nd0 (Q : Nat) : Nd := ⟨0, 0, 0, 0, List.replicate Q zQr, [], []⟩
theorem info_que9 : (Tryz.prog.info? 140).map (fun i => (i.zero, i.size, i.bytes)) = some (some (.agg #[.int .i64 0, .int .i64 0, .int .i64 0, .int .i64 0, .int .i64 0]), 5, 40) := by kernel_rfl
theorem qsV_rep (Q : Nat) : qsV (List.replicate Q zQr) = (List.replicate Q [Value.int .i64 0, .int .i64 0, .int .i64 0, .int .i64 0, .int .i64 0]).flatten := by
 induction Q with
 | zero => rfl
 | succ n ih => rw [List.replicate_succ, List.replicate_succ, List.flatten_cons, qsV, ih]; rfl
structure LN (p : NtP) (nb cb : Nat) (CA : Array Value) (w : World) (zs : List Nz) (W : World) : Prop where
 hb : Below w.heap.size w W
 hg : W.heap[p.g]? = some (.cells (p.cells 0 nb (.slice none 0 0) (.slice none 0 0)).toArray 87 (0, 0))
 hn : W.heap[nb]? = some (.cells (fillN p.Q zs (p.N - zs.length)).toArray 90 (0, 0))
 hc : W.heap[cb]? = some (.cells CA 24 (0, 0))
 im : p.Im W
 hw : w.heap.size ≤ nb
 hz : ∀ z ∈ zs, z.1 = nd0 p.Q ∧ z.2.gv = .slice none 0 0 ∧ z.2.lv = .slice none 0 0 ∧ w.heap.size ≤ z.2.qb ∧ W.heap[z.2.qb]? = some (.cells (qsV (List.replicate p.Q zQr)).toArray 140 (0, 0))
 hp : zs.Pairwise (fun x y => x.2.qb ≠ y.2.qb)
theorem fillN_qput (Q : Nat) (zs : List Nz) (n qb : Nat) : (fillN Q zs (n + 1)).set (zs.length * 7 + 4) (.slice (some ⟨qb, 0, none⟩) Q Q) = fillN Q (zs ++ [(nd0 Q, ⟨qb, .slice none 0 0, .slice none 0 0⟩)]) n := by
 have hl := ndsV_len Q zs
 unfold fillN
 rw [List.replicate_succ, List.flatten_cons, List.set_append_right _ _ (by omega), hl, ndsV_app, show zs.length * 7 + 4 - zs.length * 7 = 4 by omega, List.append_assoc]
 rfl
theorem LN.step {p : NtP} {nb cb : Nat} {CA : Array Value} {w W W1 : World} {zs : List Nz} (h : LN p nb cb CA w zs W) (hlt : zs.length < p.N) (hb : Below W.heap.size W W1) :
  LN p nb cb CA w (zs ++ [(nd0 p.Q, ⟨W1.heap.size, .slice none 0 0, .slice none 0 0⟩)]) ((W1.alloc (.cells ((List.replicate p.Q [Value.int .i64 0, .int .i64 0, .int .i64 0, .int .i64 0, .int .i64 0]).flatten.toArray) 140)).setCell ⟨nb, zs.length * 7 + 4, none⟩ (.slice (some ⟨W1.heap.size, 0, none⟩) p.Q p.Q)) := by
 have b2 := b_tr hb (b_al W1 (.cells ((List.replicate p.Q [Value.int .i64 0, .int .i64 0, .int .i64 0, .int .i64 0, .int .i64 0]).flatten.toArray) 140))
 have hq := blk_new W1 (.cells ((List.replicate p.Q [Value.int .i64 0, .int .i64 0, .int .i64 0, .int .i64 0, .int .i64 0]).flatten.toArray) 140)
 generalize W1.alloc (.cells ((List.replicate p.Q [Value.int .i64 0, .int .i64 0, .int .i64 0, .int .i64 0, .int .i64 0]).flatten.toArray) 140) = W2 at *
 have hn2 := blk_below h.hn b2
 have kg := (Kp.refl (fun k => k = nb) W2).set_ (p := ⟨nb, zs.length * 7 + 4, none⟩) (.inl rfl) (.slice (some ⟨W1.heap.size, 0, none⟩) p.Q p.Q)
 have hft : FT (fun k => k = nb) W2 := fun k e => by subst e; exact ⟨_, _, hn2, by simp [MT]⟩
 have hws : w.heap.size ≤ W1.heap.size := Nat.le_trans h.hb.size hb.size
 refine ⟨(b_tr h.hb b2).setCell (p := ⟨nb, zs.length * 7 + 4, none⟩) h.hw _, kg.blk (blk_below h.hg b2) (fun e => ne_of_types (blk_below h.hg b2) hn2 (by decide) e), ?_, kg.blk (blk_below h.hc b2) (fun e => ne_of_types (blk_below h.hc b2) hn2 (by decide) e), (h.im.below b2).mt kg hft, h.hw, fun z hz => ?_, ?_⟩
 ·refine blk_put hn2 _ _ ?_
  rw [List.setIfInBounds_toArray, show p.N - zs.length = (p.N - (zs.length + 1)) + 1 by omega, fillN_qput]
  simp
 ·rcases List.mem_append.1 hz with hz | hz
  ·obtain ⟨a1, a2, a3, a4, a5⟩ := h.hz z hz
   exact ⟨a1, a2, a3, a4, kg.blk (blk_below a5 b2) (fun e => ne_of_types (blk_below a5 b2) hn2 (by decide) e)⟩
  ·obtain rfl := List.mem_singleton.1 hz
   refine ⟨rfl, rfl, rfl, hws, ?_⟩
   rw [qsV_rep]
   exact kg.blk hq (fun e => ne_of_types hq hn2 (by decide) e)
 ·refine List.pairwise_append.2 ⟨h.hp, List.pairwise_singleton _ _, fun x hx z hz => ?_⟩
  obtain rfl := List.mem_singleton.1 hz
  have := blk_lt (h.hz x hx).2.2.2.2
  have := hb.size
  show x.2.qb ≠ W1.heap.size
  omega
theorem net_New (c : Cf) (hc : c.OK) (s : Sc) (hs : s.OK c) (N Q : Nat) (hN : c.n = N) (hQ : c.slots = Q) (A : Option Addr) (m : Nat) (a : ScA) (w : World) (hC : c.C w A m) (hS : s.C w a) :
  Calls Tryz.prog 18 #[c.v A m, s.v a] w fun e w' => ∃ p : NtP, p.OK ∧ p.c = c ∧ p.s = s ∧ p.N = N ∧ p.Q = Q ∧ e = .returned (.tuple #[.pointer (some ⟨p.g, 0, none⟩), .int .i64 0]) ∧ (∃ nb nz, NI p w' nb 0 nz [] [] ∧ nz.map (fun z => z.1) = List.replicate N (nd0 Q) ∧ ∀ k, FS p nb nz k → w.heap.size ≤ k) ∧ Below w.heap.size w w' := by
 have HC := am hc
 have HSO := am hs
 have hN12 := am (show N ≤ 12 ∧ Q ≤ 15 ∧ c.n = N ∧ c.slots = Q by have := hc.n12; have := slots_range hc; omega)
 have KK := am (fun W hW => by have h := conf_Check c A m (by have := hc.l3; omega) W hW; rw [hc.err] at h; exact h)
 have KS := am (fun W hW => script_Check c hc s hs A m a W hW)
 have KSl := am (fun (A : Option Addr) (m : Nat) W hW => slots_calls c hc A m W hW)
 have KIp := am (fun W hW => slices_Clone_int_int.calls A m c.pairs c.pairs W hW hC.2 (by unfold slices_Clone_int_int.f; rw [if_neg (by have := hc.l3; omega)]))
 have KIo := am (fun W hW => slices_Clone_int_int.calls a.Ao a.mo s.on s.on W hW hS.on.2 (by unfold slices_Clone_int_int.f; rw [if_neg (by have := hs.on; have := hc.n12; omega)]))
 have KId := am (fun W hW => slices_Clone_int_int.calls a.Ad a.md s.drifts s.drifts W hW hS.dr.2 (by unfold slices_Clone_int_int.f; rw [if_neg (by have := hs.dr; omega)]))
 have KIe := am (fun W hW => slices_Clone_int_int.calls a.Ae a.me s.errs s.errs W hW hS.er.2 (by unfold slices_Clone_int_int.f; rw [if_neg (by have := hs.er; omega)]))
 have KCl := am (fun W hW => clone_call a.Ac a.mc s.calls (by have := hs.ca; omega) W hW hS.ca.2)
 have KAc := am (fun W hW => clone_act a.AA a.ma s.f.acts (by have := hs.f.la; omega) W hW hS.f.1.2)
 have KIv := am (fun W hW => slices_Clone_int_int.calls a.AD a.mD s.f.devs s.f.devs W hW hS.f.2.2 (by unfold slices_Clone_int_int.f; rw [if_neg (by have := hs.f.ld; omega)]))
 have HCw := am hC
 have HSw := am hS
 have hmk : ∀ W : World, (Instr.makeSlice 84 (.int .i64 c.n) (.int .i64 c.n)).run Tryz.prog W = .ok (.slice (some ⟨W.heap.size, 0, none⟩) N N) (W.alloc (.cells (fillN Q [] N).toArray 90)) := fun W => by
  exact make_run (P := Tryz.prog) 84 90 zC (.agg #[.int .i64 0, .int .i64 0, .int .i64 0, .int .i64 0, .slice none 0 0, .slice none 0 0, .slice none 0 0]) 104 Tryz.underlying84 info_node9 rfl (by simp [zC]) c.n N hN (by have := hN12.out; omega) (by omega) W
 have HMK := am hmk
 clear hc hs hN hQ hC hS hmk
 go_enter Tryz.func18, Tryz.ntmps18
 go_upto_region 1 with (fail)
 have HB := am (b_tr (b_al w (.cells #[.int .i64 c.n, .int .i64 c.pi, .int .i64 c.e, .int .i64 c.g, .int .i64 c.first, .slice A c.pairs.length m] 24)) (b_al _ (.cells #[.slice a.Ao s.on.length a.mo, .slice a.Ad s.drifts.length a.md, .slice a.Ae s.errs.length a.me, .slice a.Ac s.calls.length a.mc, .int .i64 s.f.kind, .int .i64 s.f.at_, .int .i64 s.f.frm, .int .i64 s.f.to_, .slice a.AA s.f.acts.length a.ma, .slice a.AD s.f.devs.length a.mD, .int .i64 s.rounds] 36)))
 have HCB := am (blk_alloc (blk_new w (.cells #[.int .i64 c.n, .int .i64 c.pi, .int .i64 c.e, .int .i64 c.g, .int .i64 c.first, .slice A c.pairs.length m] 24)) (.cells #[.slice a.Ao s.on.length a.mo, .slice a.Ad s.drifts.length a.md, .slice a.Ae s.errs.length a.me, .slice a.Ac s.calls.length a.mc, .int .i64 s.f.kind, .int .i64 s.f.at_, .int .i64 s.f.frm, .int .i64 s.f.to_, .slice a.AA s.f.acts.length a.ma, .slice a.AD s.f.devs.length a.mD, .int .i64 s.rounds] 36))
 have HSB := am (blk_new (w.alloc (.cells #[.int .i64 c.n, .int .i64 c.pi, .int .i64 c.e, .int .i64 c.g, .int .i64 c.first, .slice A c.pairs.length m] 24)) (.cells #[.slice a.Ao s.on.length a.mo, .slice a.Ad s.drifts.length a.md, .slice a.Ae s.errs.length a.me, .slice a.Ac s.calls.length a.mc, .int .i64 s.f.kind, .int .i64 s.f.at_, .int .i64 s.f.frm, .int .i64 s.f.to_, .slice a.AA s.f.acts.length a.ma, .slice a.AD s.f.devs.length a.mD, .int .i64 s.rounds] 36))
 rw [show (w.alloc (.cells #[.int .i64 c.n, .int .i64 c.pi, .int .i64 c.e, .int .i64 c.g, .int .i64 c.first, .slice A c.pairs.length m] 24)).heap.size = w.heap.size + 1 by simp] at HSB
 generalize (w.alloc (.cells #[.int .i64 c.n, .int .i64 c.pi, .int .i64 c.e, .int .i64 c.g, .int .i64 c.first, .slice A c.pairs.length m] 24)).alloc (.cells #[.slice a.Ao s.on.length a.mo, .slice a.Ad s.drifts.length a.md, .slice a.Ae s.errs.length a.me, .slice a.Ac s.calls.length a.mc, .int .i64 s.f.kind, .int .i64 s.f.at_, .int .i64 s.f.frm, .int .i64 s.f.to_, .slice a.AA s.f.acts.length a.ma, .slice a.AD s.f.devs.length a.mD, .int .i64 s.rounds] 36) = W1 at *
 obtain ⟨sb, hsb⟩ : ∃ b, b = w.heap.size + 1 := ⟨_, rfl⟩
 obtain ⟨cb, hcb⟩ : ∃ b, b = w.heap.size := ⟨_, rfl⟩
 have hbs := am (show w.heap.size ≤ cb ∧ w.heap.size ≤ sb ∧ cb ≠ sb by omega)
 rw [← hsb] at HSB ⊢
 rw [show (Obj.cells #[.int .i64 c.n, .int .i64 c.pi, .int .i64 c.e, .int .i64 c.g, .int .i64 c.first, .slice A c.pairs.length m] 24 (0, 0)) = (Obj.cells #[.int .i64 c.n, .int .i64 c.pi, .int .i64 c.e, .int .i64 c.g, .int .i64 c.first, .slice A c.pairs.length m] 24 (0, 0)) from rfl] at HCB
 have HCB0 : Aside0 (W1.heap[cb]? = some (.cells #[.int .i64 c.n, .int .i64 c.pi, .int .i64 c.e, .int .i64 c.g, .int .i64 c.first, .slice A c.pairs.length m] 24 (0, 0))) := by rw [hcb]; exact HCB
 have hrc : (Value.pointer (some ⟨w.heap.size, 0, none⟩)) = .pointer (some ⟨cb, 0, none⟩) := by rw [hcb]
 rw [hrc]
 clear HCB hsb hcb hrc
 have HCB := HCB0
 clear HCB0
 have cc := cells6 HCB.out
 have ff := cells11 HSB.out
 go_upto_region 7 with (first
  | (go_at_call 36; refine (KK.out _ (HCw.out.below HB.out)).mono ?_; rintro e W ⟨rfl, hb⟩; have q0_ := am (b_tr HB.out hb); have q1_ := am (blk_below HCB.out hb); have q2_ := am (blk_below HSB.out hb); clear HB HCB HSB hb cc ff; have HB := q0_; have HCB := q1_; have HSB := q2_; clear q0_ q1_ q2_; have cc := cells6 HCB.out; have ff := cells11 HSB.out)
  | (go_at_call 37; refine (KS.out _ (HSw.out.below HB.out)).mono ?_; rintro e W2 ⟨rfl, hb⟩; have q0_ := am (b_tr HB.out hb); have q1_ := am (blk_below HCB.out hb); have q2_ := am (blk_below HSB.out hb); clear HB HCB HSB hb cc ff; have HB := q0_; have HCB := q1_; have HSB := q2_; clear q0_ q1_ q2_; have cc := cells6 HCB.out; have ff := cells11 HSB.out))
 clear KK KS
 go_upto_region 8 with (go_at_call 38; refine (KIp.out _ (HCw.out.below HB.out).1).mono ?_; rintro e W3 ⟨v, rfl, hr, hb⟩; obtain ⟨Ap, mp, rfl⟩ := Kd.R_slice hr; have HP := am (RdT.of_R hr); have q0_ := am (b_tr HB.out hb); have q1_ := am (blk_below HCB.out hb); have q2_ := am (blk_below HSB.out hb); clear HB HCB HSB hb cc ff hr; have HB := q0_; have HCB := q1_; have HSB := q2_; clear q0_ q1_ q2_; have cc := cells6 HCB.out; have cf := blk_frozen HCB.out 5)
 have kg := (Kp.refl (fun k => k = cb) W3).set_ (p := ⟨cb, 5, none⟩) (.inl rfl) (.slice Ap c.pairs.length mp)
 have n1 := am (blk_put HCB.out 5 (.slice Ap c.pairs.length mp) (cs' := #[.int .i64 c.n, .int .i64 c.pi, .int .i64 c.e, .int .i64 c.g, .int .i64 c.first, .slice Ap c.pairs.length mp]) rfl)
 have n2 := am (kg.blk HSB.out (fun e => hbs.out.2.2 e.symm))
 have n3 := am (HB.out.setCell (p := ⟨cb, 5, none⟩) hbs.out.1 (.slice Ap c.pairs.length mp))
 have n4 := am (HP.out.kp plain_int kg (fun k cells e hc => by subst e; exact ne_of_types HCB.out hc (by decide) rfl))
 clear HCB HSB HB HP cc cf kg
 have HCB := n1
 have HSB := n2
 have HB := n3
 have HP := n4
 clear n1 n2 n3 n4
 generalize W3.setCell ⟨cb, 5, none⟩ (.slice Ap c.pairs.length mp) = W7 at *
 have HS9 := am (HSw.out.below HB.out)
 have ff := cells11 HSB.out
 have HN := am (below_drew (Below.refl W7.heap.size W7))
 refine startB (n := 20) (F := fun _ => False) (ds := [13, 15, 17, 19]) (by kernel_rfl) rfl (fun hHeld => ?_)
 refine plan_ [.p 0 25, .t 1 26, .p 3 28, .t 4 29, .p 6 31, .t 7 32, .p 9 34, .t 10 35] ?_
 repeat (first | refine jP ?_ | refine jW hHeld ?_ | refine jG ?_)
 refine planE ?_
 refine jO 2 (some 27) (fun K hK => ?_)
 refine kC Tryz.func38 #[.slice a.Ao s.on.length a.mo] ?_
 refine (KIo.out _ ((HS9.out.below HN.out).on.1)).mono ?_
 rintro e Wo ⟨vo, rfl, hr, hb⟩
 obtain ⟨Ao, mo, rfl⟩ := Kd.R_slice hr
 have Ho := am (RdT.of_R hr)
 replace HN := am (b_tr HN.out hb)
 clear hb hr
 refine ⟨_, rfl, ?_⟩
 refine hK.out _ _ (Kp.of HN.out) (fun hHeld => ?_)
 clear hK K
 refine jM 27 ?_
 refine plan_ [.p 12 37] ?_
 repeat (first | refine jP ?_ | refine jW hHeld ?_ | refine jG ?_)
 refine planE ?_
 refine jO 5 (some 30) (fun K hK => ?_)
 refine kC Tryz.func38 #[.slice a.Ad s.drifts.length a.md] ?_
 refine (KId.out _ ((HS9.out.below HN.out).dr.1)).mono ?_
 rintro e Wd ⟨vd, rfl, hr, hb⟩
 obtain ⟨Ad, md, rfl⟩ := Kd.R_slice hr
 have Hd := am (RdT.of_R hr)
 replace Ho := am (Ho.out.below hb)
 replace HN := am (b_tr HN.out hb)
 clear hb hr
 refine ⟨_, rfl, ?_⟩
 refine hK.out _ _ (Kp.of HN.out) (fun hHeld => ?_)
 clear hK K
 refine jM 30 ?_
 refine jO 8 (some 33) (fun K hK => ?_)
 refine kC Tryz.func38 #[.slice a.Ae s.errs.length a.me] ?_
 refine (KIe.out _ ((HS9.out.below HN.out).er.1)).mono ?_
 rintro e We ⟨ve, rfl, hr, hb⟩
 obtain ⟨Ae, me, rfl⟩ := Kd.R_slice hr
 have He := am (RdT.of_R hr)
 replace Ho := am (Ho.out.below hb)
 replace Hd := am (Hd.out.below hb)
 replace HN := am (b_tr HN.out hb)
 clear hb hr
 refine ⟨_, rfl, ?_⟩
 refine hK.out _ _ (Kp.of HN.out) (fun hHeld => ?_)
 clear hK K
 refine jM 33 ?_
 refine jO 11 (some 36) (fun K hK => ?_)
 refine kC Tryz.func39 #[.slice a.Ac s.calls.length a.mc] ?_
 refine (KCl.out _ ((HS9.out.below HN.out).ca.1)).mono ?_
 rintro e Wk ⟨vk, rfl, hr, hb⟩
 obtain ⟨Ak, mk, rfl⟩ := Kd.R_slice hr
 have Hk := am (RdT.of_R hr)
 replace Ho := am (Ho.out.below hb)
 replace Hd := am (Hd.out.below hb)
 replace He := am (He.out.below hb)
 replace HN := am (b_tr HN.out hb)
 clear hb hr
 refine ⟨_, rfl, ?_⟩
 refine hK.out _ _ (Kp.of HN.out) (fun hHeld => ?_)
 clear hK K
 refine jM 36 ?_
 refine jL 13 none (fun K hK => ?_)
 have y9 := (blk_cell (blk_below HSB.out HN.out) 0).trans rfl
 have yf9 := blk_frozen (blk_below HSB.out HN.out) 0
 refine skip_ (w1 := (Wk).setCell ⟨sb, 0, none⟩ (.slice Ao s.on.length mo)) (by rfl) rfl (by go_simp; try rfl) ?_
 have P1 := am (blk_put (blk_below HSB.out HN.out) 0 (.slice Ao s.on.length mo) (cs' := #[.slice Ao s.on.length mo, .slice a.Ad s.drifts.length a.md, .slice a.Ae s.errs.length a.me, .slice a.Ac s.calls.length a.mc, .int .i64 s.f.kind, .int .i64 s.f.at_, .int .i64 s.f.frm, .int .i64 s.f.to_, .slice a.AA s.f.acts.length a.ma, .slice a.AD s.f.devs.length a.mD, .int .i64 s.rounds]) rfl)
 clear y9 yf9
 refine hK.out _ _ ?_
 clear hK K
 refine plan_ [.p 14 38] ?_
 repeat (first | refine jP ?_ | refine jW hHeld ?_ | refine jG ?_)
 refine planE ?_
 refine jL 15 none (fun K hK => ?_)
 have y9 := (blk_cell (P1.out) 1).trans rfl
 have yf9 := blk_frozen (P1.out) 1
 refine skip_ (w1 := ((Wk).setCell ⟨sb, 0, none⟩ (.slice Ao s.on.length mo)).setCell ⟨sb, 1, none⟩ (.slice Ad s.drifts.length md)) (by rfl) rfl (by go_simp; try rfl) ?_
 have P2 := am (blk_put (P1.out) 1 (.slice Ad s.drifts.length md) (cs' := #[.slice Ao s.on.length mo, .slice Ad s.drifts.length md, .slice a.Ae s.errs.length a.me, .slice a.Ac s.calls.length a.mc, .int .i64 s.f.kind, .int .i64 s.f.at_, .int .i64 s.f.frm, .int .i64 s.f.to_, .slice a.AA s.f.acts.length a.ma, .slice a.AD s.f.devs.length a.mD, .int .i64 s.rounds]) rfl)
 clear y9 yf9
 refine hK.out _ _ ?_
 clear hK K
 refine plan_ [.p 16 39] ?_
 repeat (first | refine jP ?_ | refine jW hHeld ?_ | refine jG ?_)
 refine planE ?_
 refine jL 17 none (fun K hK => ?_)
 have y9 := (blk_cell (P2.out) 2).trans rfl
 have yf9 := blk_frozen (P2.out) 2
 refine skip_ (w1 := (((Wk).setCell ⟨sb, 0, none⟩ (.slice Ao s.on.length mo)).setCell ⟨sb, 1, none⟩ (.slice Ad s.drifts.length md)).setCell ⟨sb, 2, none⟩ (.slice Ae s.errs.length me)) (by rfl) rfl (by go_simp; try rfl) ?_
 have P3 := am (blk_put (P2.out) 2 (.slice Ae s.errs.length me) (cs' := #[.slice Ao s.on.length mo, .slice Ad s.drifts.length md, .slice Ae s.errs.length me, .slice a.Ac s.calls.length a.mc, .int .i64 s.f.kind, .int .i64 s.f.at_, .int .i64 s.f.frm, .int .i64 s.f.to_, .slice a.AA s.f.acts.length a.ma, .slice a.AD s.f.devs.length a.mD, .int .i64 s.rounds]) rfl)
 clear y9 yf9
 refine hK.out _ _ ?_
 clear hK K
 refine plan_ [.p 18 40] ?_
 repeat (first | refine jP ?_ | refine jW hHeld ?_ | refine jG ?_)
 refine planE ?_
 refine jL 19 none (fun K hK => ?_)
 have y9 := (blk_cell (P3.out) 3).trans rfl
 have yf9 := blk_frozen (P3.out) 3
 refine skip_ (w1 := ((((Wk).setCell ⟨sb, 0, none⟩ (.slice Ao s.on.length mo)).setCell ⟨sb, 1, none⟩ (.slice Ad s.drifts.length md)).setCell ⟨sb, 2, none⟩ (.slice Ae s.errs.length me)).setCell ⟨sb, 3, none⟩ (.slice Ak s.calls.length mk)) (by rfl) rfl (by go_simp; try rfl) ?_
 have P4 := am (blk_put (P3.out) 3 (.slice Ak s.calls.length mk) (cs' := #[.slice Ao s.on.length mo, .slice Ad s.drifts.length md, .slice Ae s.errs.length me, .slice Ak s.calls.length mk, .int .i64 s.f.kind, .int .i64 s.f.at_, .int .i64 s.f.frm, .int .i64 s.f.to_, .slice a.AA s.f.acts.length a.ma, .slice a.AD s.f.devs.length a.mD, .int .i64 s.rounds]) rfl)
 clear y9 yf9
 refine hK.out _ _ ?_
 clear hK K
 refine done_ (by kernel_rfl) ?_
 have kg := ((((Kp.refl (fun k => k = sb) Wk).set_ (p := ⟨sb, 0, none⟩) (.inl rfl) (.slice Ao s.on.length mo)).set_ (p := ⟨sb, 1, none⟩) (.inl rfl) (.slice Ad s.drifts.length md)).set_ (p := ⟨sb, 2, none⟩) (.inl rfl) (.slice Ae s.errs.length me)).set_ (p := ⟨sb, 3, none⟩) (.inl rfl) (.slice Ak s.calls.length mk)
 have hsT := blk_below HSB.out HN.out
 have n1 := am (kg.blk (blk_below HCB.out HN.out) (fun e => hbs.out.2.2 e))
 have n3 := am ((((((b_tr HB.out HN.out)).setCell (p := ⟨sb, 0, none⟩) hbs.out.2.1 (.slice Ao s.on.length mo)).setCell (p := ⟨sb, 1, none⟩) hbs.out.2.1 (.slice Ad s.drifts.length md)).setCell (p := ⟨sb, 2, none⟩) hbs.out.2.1 (.slice Ae s.errs.length me)).setCell (p := ⟨sb, 3, none⟩) hbs.out.2.1 (.slice Ak s.calls.length mk))
 have n4 := am ((HP.out.below HN.out).kp plain_int kg (fun k cells e hc => by subst e; exact ne_of_types hsT hc (by decide) rfl))
 have no := am (Ho.out.kp plain_int kg (fun k cells e hc => by subst e; exact ne_of_types hsT hc (by decide) rfl))
 have nd := am (Hd.out.kp plain_int kg (fun k cells e hc => by subst e; exact ne_of_types hsT hc (by decide) rfl))
 have ne := am (He.out.kp plain_int kg (fun k cells e hc => by subst e; exact ne_of_types hsT hc (by decide) rfl))
 have nk := am (Hk.out.kp plain_call kg (fun k cells e hc => by subst e; exact ne_of_types hsT hc (by decide) rfl))
 have n2 := P4
 clear HCB HSB HB HP HN Ho Hd He Hk P1 P2 P3 P4 HS9 kg hsT ff KIo KId KIe KCl
 have HCB := n1
 have HSB := n2
 have HB := n3
 have HP := n4
 clear n1 n2 n3 n4
 generalize ((((Wk).setCell ⟨sb, 0, none⟩ (.slice Ao s.on.length mo)).setCell ⟨sb, 1, none⟩ (.slice Ad s.drifts.length md)).setCell ⟨sb, 2, none⟩ (.slice Ae s.errs.length me)).setCell ⟨sb, 3, none⟩ (.slice Ak s.calls.length mk) = W8 at *
 have HS9 := am (HSw.out.below HB.out)
 have ff := cells11 HSB.out
 go_wp2
 have HN := am (below_drew (Below.refl W8.heap.size W8))
 refine startB (n := 14) (F := fun _ => False) (ds := [10, 13]) (by kernel_rfl) rfl (fun hHeld => ?_)
 refine plan_ [.p 0 41, .p 1 42, .t 2 43, .p 4 45, .p 5 46, .t 6 47] ?_
 repeat (first | refine jP ?_ | refine jW hHeld ?_ | refine jG ?_)
 refine planE ?_
 refine jO 3 (some 44) (fun K hK => ?_)
 refine kC Tryz.func40 #[.slice a.AA s.f.acts.length a.ma] ?_
 refine (KAc.out _ ((HS9.out.below HN.out).f.1.1)).mono ?_
 rintro e Wx ⟨vx, rfl, hr, hb⟩
 obtain ⟨Ax, mx, rfl⟩ := Kd.R_slice hr
 have Hx := am (RdT.of_R hr)
 replace HN := am (b_tr HN.out hb)
 clear hb hr
 refine ⟨_, rfl, ?_⟩
 refine hK.out _ _ (Kp.of HN.out) (fun hHeld => ?_)
 clear hK K
 refine jM 44 ?_
 refine plan_ [.p 8 49, .p 9 50] ?_
 repeat (first | refine jP ?_ | refine jW hHeld ?_ | refine jG ?_)
 refine planE ?_
 refine jO 7 (some 48) (fun K hK => ?_)
 refine kC Tryz.func38 #[.slice a.AD s.f.devs.length a.mD] ?_
 refine (KIv.out _ ((HS9.out.below HN.out).f.2.1)).mono ?_
 rintro e Wy ⟨vy, rfl, hr, hb⟩
 obtain ⟨Ay, my, rfl⟩ := Kd.R_slice hr
 have Hy := am (RdT.of_R hr)
 replace Hx := am (Hx.out.below hb)
 replace HN := am (b_tr HN.out hb)
 clear hb hr
 refine ⟨_, rfl, ?_⟩
 refine hK.out _ _ (Kp.of HN.out) (fun hHeld => ?_)
 clear hK K
 refine jM 48 ?_
 refine jL 10 none (fun K hK => ?_)
 have y9 := (blk_cell (blk_below HSB.out HN.out) 8).trans rfl
 have yf9 := blk_frozen (blk_below HSB.out HN.out) 8
 refine skip_ (w1 := (Wy).setCell ⟨sb, 8, none⟩ (.slice Ax s.f.acts.length mx)) (by rfl) rfl (by go_simp; try rfl) ?_
 have P1 := am (blk_put (blk_below HSB.out HN.out) 8 (.slice Ax s.f.acts.length mx) (cs' := #[.slice Ao s.on.length mo, .slice Ad s.drifts.length md, .slice Ae s.errs.length me, .slice Ak s.calls.length mk, .int .i64 s.f.kind, .int .i64 s.f.at_, .int .i64 s.f.frm, .int .i64 s.f.to_, .slice Ax s.f.acts.length mx, .slice a.AD s.f.devs.length a.mD, .int .i64 s.rounds]) rfl)
 clear y9 yf9
 refine hK.out _ _ ?_
 clear hK K
 refine plan_ [.p 11 51, .p 12 52] ?_
 repeat (first | refine jP ?_ | refine jW hHeld ?_ | refine jG ?_)
 refine planE ?_
 refine jL 13 none (fun K hK => ?_)
 have y9 := (blk_cell (P1.out) 9).trans rfl
 have yf9 := blk_frozen (P1.out) 9
 refine skip_ (w1 := ((Wy).setCell ⟨sb, 8, none⟩ (.slice Ax s.f.acts.length mx)).setCell ⟨sb, 9, none⟩ (.slice Ay s.f.devs.length my)) (by rfl) rfl (by go_simp; try rfl) ?_
 have P2 := am (blk_put (P1.out) 9 (.slice Ay s.f.devs.length my) (cs' := #[.slice Ao s.on.length mo, .slice Ad s.drifts.length md, .slice Ae s.errs.length me, .slice Ak s.calls.length mk, .int .i64 s.f.kind, .int .i64 s.f.at_, .int .i64 s.f.frm, .int .i64 s.f.to_, .slice Ax s.f.acts.length mx, .slice Ay s.f.devs.length my, .int .i64 s.rounds]) rfl)
 clear y9 yf9
 refine hK.out _ _ ?_
 clear hK K
 refine done_ (by kernel_rfl) ?_
 have kg := ((Kp.refl (fun k => k = sb) Wy).set_ (p := ⟨sb, 8, none⟩) (.inl rfl) (.slice Ax s.f.acts.length mx)).set_ (p := ⟨sb, 9, none⟩) (.inl rfl) (.slice Ay s.f.devs.length my)
 have hsT := blk_below HSB.out HN.out
 have n1 := am (kg.blk (blk_below HCB.out HN.out) (fun e => hbs.out.2.2 e))
 have n3 := am (((b_tr HB.out HN.out).setCell (p := ⟨sb, 8, none⟩) hbs.out.2.1 (.slice Ax s.f.acts.length mx)).setCell (p := ⟨sb, 9, none⟩) hbs.out.2.1 (.slice Ay s.f.devs.length my))
 have n4 := am ((HP.out.below HN.out).kp plain_int kg (fun k cells e hc => by subst e; exact ne_of_types hsT hc (by decide) rfl))
 have Ho := am ((no.out.below HN.out).kp plain_int kg (fun k cells e hc => by subst e; exact ne_of_types hsT hc (by decide) rfl))
 have Hd := am ((nd.out.below HN.out).kp plain_int kg (fun k cells e hc => by subst e; exact ne_of_types hsT hc (by decide) rfl))
 have He := am ((ne.out.below HN.out).kp plain_int kg (fun k cells e hc => by subst e; exact ne_of_types hsT hc (by decide) rfl))
 have Hk := am ((nk.out.below HN.out).kp plain_call kg (fun k cells e hc => by subst e; exact ne_of_types hsT hc (by decide) rfl))
 have nx := am (Hx.out.kp plain_act kg (fun k cells e hc => by subst e; exact ne_of_types hsT hc (by decide) rfl))
 have ny := am (Hy.out.kp plain_int kg (fun k cells e hc => by subst e; exact ne_of_types hsT hc (by decide) rfl))
 have n2 := P2
 clear HCB HSB HB HP HN no nd ne nk Hx Hy P1 P2 HS9 kg hsT ff KAc KIv
 have HCB := n1
 have HSB := n2
 have HB := n3
 have HP := n4
 clear n1 n2 n3 n4
 generalize ((Wy).setCell ⟨sb, 8, none⟩ (.slice Ax s.f.acts.length mx)).setCell ⟨sb, 9, none⟩ (.slice Ay s.f.devs.length my) = W9 at *
 obtain ⟨p, hpe⟩ : ∃ p : NtP, p = ⟨c, Ap, mp, s, ⟨Ao, mo, Ad, md, Ae, me, Ak, mk, Ax, mx, Ay, my⟩, 0, N, Q⟩ := ⟨_, rfl⟩
 have HIM := am (show NtP.Im ⟨c, Ap, mp, s, ⟨Ao, mo, Ad, md, Ae, me, Ak, mk, Ax, mx, Ay, my⟩, 0, N, Q⟩ W9 from ⟨HP.out, Ho.out, Hd.out, He.out, Hk.out, nx.out, ny.out⟩)
 clear HP Ho Hd He Hk nx ny hpe p
 have cc := cells6 HCB.out
 have ff := cells11 HSB.out
 go_wp2
 have hmk := HMK.out
 have HN := am (below_drew (Below.refl W9.heap.size W9))
 refine startB (n := 8) (F := fun _ => False) (ds := []) (by kernel_rfl) rfl (fun hHeld => ?_)
 refine plan_ [.t 0 53, .t 1 54, .p 2 55, .t 3 56] ?_
 repeat (first | refine jP ?_ | refine jW hHeld ?_ | refine jG ?_)
 refine planE ?_
 refine jO 4 (some 57) (fun K hK => ?_)
 refine value_ (v := .slice (some ⟨W9.drew.heap.size, 0, none⟩) N N) (w1 := W9.drew.alloc (.cells (fillN Q [] N).toArray 90)) (by rfl) rfl (by go_simp; try exact hmk _) ?_
 refine hK.out _ _ ((Kp.of HN.out).then_ (b_al _ _)) (fun hHeld => ?_)
 clear hK K
 refine jM 57 ?_
 refine plan_ [.p 5 58] ?_
 repeat (first | refine jP ?_ | refine jW hHeld ?_ | refine jG ?_)
 refine planE ?_
 refine jO 6 (some 59) (fun K hK => ?_)
 refine value_ (v := .pointer (some ⟨(W9.drew.alloc (.cells (fillN Q [] N).toArray 90)).heap.size, 0, none⟩)) (w1 := (W9.drew.alloc (.cells (fillN Q [] N).toArray 90)).alloc (.cells #[.int .i64 c.n, .int .i64 c.pi, .int .i64 c.e, .int .i64 c.g, .int .i64 c.first, .slice Ap c.pairs.length mp, .slice Ao s.on.length mo, .slice Ad s.drifts.length md, .slice Ae s.errs.length me, .slice Ak s.calls.length mk, .int .i64 s.f.kind, .int .i64 s.f.at_, .int .i64 s.f.frm, .int .i64 s.f.to_, .slice Ax s.f.acts.length mx, .slice Ay s.f.devs.length my, .int .i64 s.rounds, .int .i64 0, .slice (some ⟨W9.drew.heap.size, 0, none⟩) N N, .slice none 0 0, .slice none 0 0] 87)) (by rfl) rfl (by go_simp; try rfl) ?_
 refine hK.out _ _ (((Kp.of HN.out).then_ (b_al _ _)).then_ (b_al _ _)) (fun hHeld => ?_)
 clear hK K
 refine jM 59 ?_
 refine plan_ [.p 7 8] ?_
 repeat (first | refine jP ?_ | refine jW hHeld ?_ | refine jG ?_)
 refine planE ?_
 refine done_ (by kernel_rfl) ?_
 obtain ⟨WD, hWD⟩ : ∃ W, W = W9.drew := ⟨_, rfl⟩
 have HLN := am (show LN ⟨c, Ap, mp, s, ⟨Ao, mo, Ad, md, Ae, me, Ak, mk, Ax, mx, Ay, my⟩, (W9.drew.alloc (.cells (fillN Q [] N).toArray 90)).heap.size, N, Q⟩ W9.drew.heap.size cb #[.int .i64 c.n, .int .i64 c.pi, .int .i64 c.e, .int .i64 c.g, .int .i64 c.first, .slice Ap c.pairs.length mp] w [] ((W9.drew.alloc (.cells (fillN Q [] N).toArray 90)).alloc (.cells #[.int .i64 c.n, .int .i64 c.pi, .int .i64 c.e, .int .i64 c.g, .int .i64 c.first, .slice Ap c.pairs.length mp, .slice Ao s.on.length mo, .slice Ad s.drifts.length md, .slice Ae s.errs.length me, .slice Ak s.calls.length mk, .int .i64 s.f.kind, .int .i64 s.f.at_, .int .i64 s.f.frm, .int .i64 s.f.to_, .slice Ax s.f.acts.length mx, .slice Ay s.f.devs.length my, .int .i64 s.rounds, .int .i64 0, .slice (some ⟨W9.drew.heap.size, 0, none⟩) N N, .slice none 0 0, .slice none 0 0] 87)) from by
  have b3 := b_tr HN.out (b_tr (b_al W9.drew (.cells (fillN Q [] N).toArray 90)) (b_al _ (.cells #[.int .i64 c.n, .int .i64 c.pi, .int .i64 c.e, .int .i64 c.g, .int .i64 c.first, .slice Ap c.pairs.length mp, .slice Ao s.on.length mo, .slice Ad s.drifts.length md, .slice Ae s.errs.length me, .slice Ak s.calls.length mk, .int .i64 s.f.kind, .int .i64 s.f.at_, .int .i64 s.f.frm, .int .i64 s.f.to_, .slice Ax s.f.acts.length mx, .slice Ay s.f.devs.length my, .int .i64 s.rounds, .int .i64 0, .slice (some ⟨W9.drew.heap.size, 0, none⟩) N N, .slice none 0 0, .slice none 0 0] 87)))
  have hi := HIM.out.below b3
  exact ⟨b_tr HB.out b3, blk_new _ _, blk_alloc (blk_new _ _) _, blk_below HCB.out b3, ⟨hi.pr, hi.on, hi.dr, hi.er, hi.ca, hi.ac, hi.dv⟩, HB.out.size, fun z hz => by simp at hz, List.Pairwise.nil⟩)
 clear hWD WD HN HB HCB HSB HIM cc ff hmk HMK hHeld
 have e1 : W9.drew.heap.size = W9.heap.size := rfl
 have e2 : (W9.drew.alloc (.cells (fillN Q [] N).toArray 90)).heap.size = W9.heap.size + 1 := by simp
 simp only [e2, e1] at HLN ⊢
 obtain ⟨g, hg⟩ : ∃ g, g = W9.heap.size + 1 := ⟨_, rfl⟩
 rw [← hg] at HLN ⊢
 have HWG := am (show w.heap.size ≤ g by
  have h1 := HLN.out.hw
  omega)
 clear hg e1 e2
 generalize (W9.drew.alloc (.cells (fillN Q [] N).toArray 90)).alloc (.cells #[.int .i64 c.n, .int .i64 c.pi, .int .i64 c.e, .int .i64 c.g, .int .i64 c.first, .slice Ap c.pairs.length mp, .slice Ao s.on.length mo, .slice Ad s.drifts.length md, .slice Ae s.errs.length me, .slice Ak s.calls.length mk, .int .i64 s.f.kind, .int .i64 s.f.at_, .int .i64 s.f.frm, .int .i64 s.f.to_, .slice Ax s.f.acts.length mx, .slice Ay s.f.devs.length my, .int .i64 s.rounds, .int .i64 0, .slice (some ⟨W9.heap.size, 0, none⟩) N N, .slice none 0 0, .slice none 0 0] 87) = WB at *
 generalize W9.heap.size = nb at *
 obtain ⟨p, hpe⟩ : ∃ p : NtP, p = ⟨c, Ap, mp, s, ⟨Ao, mo, Ad, md, Ae, me, Ak, mk, Ax, mx, Ay, my⟩, g, N, Q⟩ := ⟨_, rfl⟩
 rw [← hpe] at HLN
 have HPE := am hpe
 clear hpe
 have hpg : p.g = g := by rw [HPE.out]
 have hpN : p.N = N := by rw [HPE.out]
 have hpQ : p.Q = Q := by rw [HPE.out]
 have HPQ := am (And.intro hpg (And.intro hpN hpQ))
 have y18 : WB.cell? ⟨g, 18, none⟩ = some (.slice (some ⟨nb, 0, none⟩) N N) := by
  have h1 : WB.cell? ⟨p.g, 18, none⟩ = some (.slice (some ⟨nb, 0, none⟩) p.N p.N) := (blk_cell HLN.out.hg 18).trans rfl
  rw [hpg, hpN] at h1
  exact h1
 clear hpg hpN hpQ
 go_wp2
 clear y18
 go_loopw [65] (fun v w' => ∃ k : Nat, v = .int .i64 k ∧ k ≤ N ∧ Aside0 (∃ zs : List Nz, zs.length = k ∧ LN p nb cb #[.int .i64 c.n, .int .i64 c.pi, .int .i64 c.e, .int .i64 c.g, .int .i64 c.first, .slice Ap c.pairs.length mp] w zs w')) (fun v _ => N - (intOf v).toNat)
 case atStart => exact ⟨0, rfl, Nat.zero_le _, ⟨[], rfl, HLN.out⟩⟩
 case round =>
  clear HLN
  obtain ⟨k, rfl, hk, hL⟩ := hrel
  obtain ⟨zs, hzk, hLN⟩ := hL.out
  have HLN := am hLN
  by_cases hlt : k < N
  ·have hlt9 := am hlt
   have h12 : N ≤ 12 := hN12.out.1
   have hmkq : ∀ W : World, (Instr.makeSlice 88 (.int .i64 c.slots) (.int .i64 c.slots)).run Tryz.prog W = .ok (.slice (some ⟨W.heap.size, 0, none⟩) Q Q) (W.alloc (.cells ((List.replicate Q [Value.int .i64 0, .int .i64 0, .int .i64 0, .int .i64 0, .int .i64 0]).flatten.toArray) 140)) := fun W => by
    exact make_run (P := Tryz.prog) 88 140 [.int .i64 0, .int .i64 0, .int .i64 0, .int .i64 0, .int .i64 0] (.agg #[.int .i64 0, .int .i64 0, .int .i64 0, .int .i64 0, .int .i64 0]) 40 Tryz.underlying88 info_que9 rfl (by simp) c.slots Q hN12.out.2.2.2 (by have := hN12.out; omega) (by omega) W
   have y18 : wr.cell? ⟨g, 18, none⟩ = some (.slice (some ⟨nb, 0, none⟩) N N) := by
    have h1 : wr.cell? ⟨p.g, 18, none⟩ = some (.slice (some ⟨nb, 0, none⟩) p.N p.N) := (blk_cell hLN.hg 18).trans rfl
    rw [HPQ.out.1, HPQ.out.2.1] at h1
    exact h1
   have cc := cells6 hLN.hc
   have hcC : c.C wr Ap mp := by
    have h1 := hLN.im.pr
    rw [HPE.out] at h1
    exact h1.C
   have HCC := am hcC
   have hsz := am (show k * 7 + 4 < (fillN p.Q zs (p.N - zs.length)).length from by
    unfold fillN
    rw [List.length_append, ndsV_len, flat_len]
    have := HPQ.out.2.1
    show k * 7 + 4 < zs.length * 7 + (p.N - zs.length) * 7
    omega)
   have q3 := eq_true (show ((k : Int) < (N : Int)) by omega)
   have hzk9 := am hzk
   have hk12 : k ≤ 12 := by omega
   clear hL hLN hzk hcC hk hlt
   go_upto_region 14 with (fail)
   have HN := am (below_drew (Below.refl wr.heap.size wr))
   refine startB (n := 11) (F := fun _ => False) (ds := [10]) (by kernel_rfl) rfl (fun hHeld => ?_)
   refine plan_ [.p 0 68, .p 1 69, .p 2 70, .t 3 71, .p 4 72, .t 5 73] ?_
   repeat (first | refine jP ?_ | refine jW hHeld ?_ | refine jG ?_)
   refine planE ?_
   refine jO 6 (some 74) (fun K hK => ?_)
   refine kC Tryz.func41 #[c.v Ap mp] ?_
   refine (KSl.out Ap mp _ (HCC.out.below HN.out)).mono ?_
   rintro e W5 ⟨rfl, hb⟩
   replace HN := am (b_tr HN.out hb)
   clear hb
   refine ⟨_, rfl, ?_⟩
   refine hK.out _ _ (Kp.of HN.out) (fun hHeld => ?_)
   clear hK K
   refine jM 74 ?_
   refine jO 7 (some 75) (fun K hK => ?_)
   refine value_ (v := .slice (some ⟨W5.heap.size, 0, none⟩) Q Q) (w1 := W5.alloc (.cells ((List.replicate Q [Value.int .i64 0, .int .i64 0, .int .i64 0, .int .i64 0, .int .i64 0]).flatten.toArray) 140)) (by rfl) rfl (by go_simp; try exact hmkq _) ?_
   refine hK.out _ _ ((Kp.of HN.out).then_ (b_al _ _)) (fun hHeld => ?_)
   clear hK K
   refine jM 75 ?_
   refine plan_ [.p 8 76, .p 9 77] ?_
   repeat (first | refine jP ?_ | refine jW hHeld ?_ | refine jG ?_)
   refine planE ?_
   refine jL 10 none (fun K hK => ?_)
   have hn5 := blk_alloc (blk_below HLN.out.hn HN.out) (.cells ((List.replicate Q [Value.int .i64 0, .int .i64 0, .int .i64 0, .int .i64 0, .int .i64 0]).flatten.toArray) 140)
   obtain ⟨u4, hu4⟩ : ∃ u4, (fillN p.Q zs (p.N - zs.length)).toArray[k * 7 + 4]? = some u4 := ⟨_, Array.getElem?_eq_getElem (show k * 7 + 4 < (fillN p.Q zs (p.N - zs.length)).toArray.size from by rw [List.size_toArray]; exact hsz.out)⟩
   have y4 := (blk_cell hn5 (k * 7 + 4)).trans hu4
   have yf4 := blk_frozen hn5 (k * 7 + 4)
   clear hn5 hu4 cc y18
   refine skip_ (w1 := (W5.alloc (.cells ((List.replicate Q [Value.int .i64 0, .int .i64 0, .int .i64 0, .int .i64 0, .int .i64 0]).flatten.toArray) 140)).setCell ⟨nb, k * 7 + 4, none⟩ (.slice (some ⟨W5.heap.size, 0, none⟩) Q Q)) (by rfl) rfl (by go_simp; try rfl) ?_
   refine hK.out _ _ ?_
   clear hK K
   refine done_ (by kernel_rfl) ?_
   have HL5 := am (HLN.out.step (by rw [hzk9.out, HPQ.out.2.1]; exact hlt9.out) HN.out)
   clear HN y4 yf4
   go_wp2
   go_roundw
   case rel =>
    refine ⟨k + 1, by simp, hlt9.out, ⟨zs ++ [(nd0 p.Q, ⟨W5.heap.size, .slice none 0 0, .slice none 0 0⟩)], by simp [hzk9.out], ?_⟩⟩
    have h9 := HL5.out
    rw [hzk9.out] at h9
    have e9 := HPQ.out.2.2
    rw [← e9]
    exact h9
   case measure => have := hlt9.out; simp [intOf]; omega
  ·obtain rfl : k = N := by omega
   have q3 := eq_false (show ¬ ((k : Int) < (k : Int)) by omega)
   have hzk9 := am hzk
   clear hL hLN hzk hk hlt
   go_wp2
   go_ret2
   have hL := HLN.out
   have hpN := HPQ.out.2.1
   have hpQ := HPQ.out.2.2
   have hn := hL.hn
   rw [show p.N - zs.length = 0 by rw [hzk9.out, hpN]; omega] at hn
   have hn' : wr.heap[nb]? = some (.cells (ndsV p.Q zs).toArray 90 (0, 0)) := by
    rw [hn]
    unfold fillN
    simp
   refine ⟨p, ⟨by rw [HPE.out]; exact HC.out, by rw [HPE.out]; exact HSO.out, by rw [HPE.out]; exact hN12.out.2.2.1, by rw [HPE.out]; exact hN12.out.2.2.2⟩, by rw [HPE.out], by rw [HPE.out], hpN, hpQ, by rw [HPQ.out.1]; rfl, ⟨nb, zs, ⟨⟨.slice none 0 0, .slice none 0 0, ⟨hL.hg, hn', by rw [hzk9.out, hpN], fun x hx => ?_, hL.hp.imp_of_mem (fun {x y} hx hy h => ⟨h, fun k e => by rw [(hL.hz x hx).2.2.1] at e; simp [Value.ownBlock] at e⟩), hL.im⟩, ⟨[], RdT.nil _ _ _, rfl, fun i x sl a _ => by simp at a⟩, RdT.nil _ _ _⟩, fun x hx => ?_, fun z hz => ?_⟩, ?_, fun k hk => ?_⟩, hL.hb⟩
   ·obtain ⟨a1, a2, a3, a4, a5⟩ := hL.hz x hx
    have e1 : x.1.qs = List.replicate p.Q zQr := by rw [a1]; rfl
    refine ⟨by rw [e1]; exact a5, by rw [e1]; simp, fun q hq => ?_, by rw [a1, a2]; exact RdT.nil _ _ _, .inl ⟨by rw [a1]; rfl, a2⟩, ⟨_, _, _, a3⟩⟩
    rw [e1] at hq
    rw [List.eq_of_mem_replicate hq]
    exact zQr_ok
   ·rw [(hL.hz x hx).1, (hL.hz x hx).2.2.1]
    exact Kd.R_nil _ _ _ _ _
   ·rw [(hL.hz z hz).1]
    exact ⟨⟨Int.le_refl _, Int.le_refl _⟩, Int.le_refl _⟩
   ·rw [← hpQ]
    refine List.eq_replicate_iff.2 ⟨by simp [hzk9.out], fun b hb => ?_⟩
    obtain ⟨z, hz, rfl⟩ := List.mem_map.1 hb
    exact (hL.hz z hz).1
   ·rcases hk with e | e | ⟨z, hz, e⟩ | ⟨z, hz, e⟩
    ·rw [e, HPQ.out.1]; exact HWG.out
    ·rw [e]; exact hL.hw
    ·rw [e]; exact (hL.hz z hz).2.2.2.1
    ·rw [(hL.hz z hz).2.2.1] at e
     simp [Value.ownBlock] at e
end Go.Proofs.YtgcgglmmfgmaoaaGreat.PK
end
section
namespace Go.Proofs.YtgcgglmmfgmaoaaGreat.PK
open Go Go.RowKit Go.Proofs.YtgcgglmmfgmaoaaGreatW.PrintWords Go.Proofs.YtgcgglmmfgmaoaaGreatW.PrintLast Go.Proofs.YtgcgglmmfgmaoaaGreatW.PrintMore
attribute [local go_sem] max2_int min2_int max_two min_two
theorem net_at (p : NtP) (ok0 : p.OK) (nb : Nat) (round : Int) (nz : List Nz) (sv cv : Value) (i : Nat) (hi : i < p.N) (w : World) (h : NB p w nb round nz sv cv) :
  Calls Tryz.prog 49 #[.pointer (some ⟨p.g, 0, none⟩), .int .i64 i] w fun e w' => e = .returned (.pointer (some ⟨nb, i * 7, none⟩)) ∧ Below w.heap.size w w' := by
 have gg := h.gcells
 have hN12 : p.N ≤ 12 := by have := ok0.hc.n12; have := ok0.hN; omega
 have q0 := eq_true (show ((i : Int) < (p.N : Int)) by omega)
 have q1 : decide ((i : Int) < 0) = false := decide_eq_false (by omega)
 have q2 : decide ((p.N : Int) ≤ (i : Int)) = false := decide_eq_false (by omega)
 have q3 := eq_false (show ¬ p.N ≤ i by omega)
 have q4 := eq_false (show ¬ ((p.N : Int) ≤ (i : Int)) by omega)
 have q5 := eq_false (show ¬ ((i : Int) < 0) by omega)
 clear h hi ok0
 go_enter Tryz.func49, Tryz.ntmps49
 go_wp2
 go_ret
 exact ⟨rfl, Below.refl _ _⟩
theorem net_Round (p : NtP) (nb : Nat) (round : Int) (nz : List Nz) (sl : List Sl) (es : List Int) (w : World) (h : NI p w nb round nz sl es) :
  Calls Tryz.prog 29 #[.pointer (some ⟨p.g, 0, none⟩)] w fun e w' => e = .returned (.int .i64 round) ∧ Below w.heap.size w w' := by
 obtain ⟨sv, cv, hN, hS, hC⟩ := h.h
 have gg := hN.gcells
 clear h hN hS hC
 go_enter Tryz.func29, Tryz.ntmps29
 go_wp2
 go_ret
 exact ⟨rfl, Below.refl _ _⟩
theorem net_State (p : NtP) (ok0 : p.OK) (nb : Nat) (round : Int) (nz : List Nz) (sl : List Sl) (es : List Int) (i : Nat) (hi : i < p.N) (w : World) (h : NI p w nb round nz sl es) :
  Calls Tryz.prog 21 #[.pointer (some ⟨p.g, 0, none⟩), .int .i64 i] w fun e w' => e = .returned (.tuple #[.int .i64 (gz nz i).1.st, .int .i64 (gz nz i).1.tm]) ∧ Below w.heap.size w w' := by
 obtain ⟨sv, cv, hN, hS, hC⟩ := h.h
 have hl := hN.hl
 have KA := am (net_at p ok0 nb round nz sv cv i hi w hN)
 have hN12 : p.N ≤ 12 := by have := ok0.hc.n12; have := ok0.hN; omega
 have HH := am hN
 have HI := am (show i < nz.length by omega)
 obtain ⟨x, y, hz⟩ : ∃ x y, gz nz i = (x, y) := ⟨_, _, rfl⟩
 rw [hz]
 simp only
 have HZ := am hz
 clear h hN hS hC hl hi hz ok0
 go_enter Tryz.func21, Tryz.ntmps21
 go_upto_region 2 with (go_at_call 49; refine KA.out.mono ?_; rintro e W1 ⟨rfl, hb⟩; have nn := (HH.out.below hb).ncells i HI.out; have HB := am hb; clear hb)
 rw [HZ.out] at nn
 simp only at nn
 have HN := am (below_drew (Below.refl W1.heap.size W1))
 refine startB (n := 10) (F := fun _ => False) (ds := []) (by kernel_rfl) rfl (fun hHeld => ?_)
 refine plan_ [.p 0 10, .p 1 11, .p 2 12, .t 3 13, .p 4 14, .p 5 15, .p 6 16, .t 7 17, .p 8 4, .p 9 5] ?_
 repeat (first | refine jP ?_ | refine jW hHeld ?_ | refine jG ?_)
 refine planE ?_
 refine done_ (by kernel_rfl) ?_
 go_wp2
 go_ret2
 exact ⟨rfl, b_tr HB.out HN.out⟩
theorem net_Clock (p : NtP) (ok0 : p.OK) (nb : Nat) (round : Int) (nz : List Nz) (sl : List Sl) (es : List Int) (i : Nat) (hi : i < p.N) (w : World) (h : NI p w nb round nz sl es) :
  Calls Tryz.prog 25 #[.pointer (some ⟨p.g, 0, none⟩), .int .i64 i] w fun e w' => e = .returned (.int .i64 (gz nz i).1.ck) ∧ Below w.heap.size w w' := by
 obtain ⟨sv, cv, hN, hS, hC⟩ := h.h
 have hl := hN.hl
 have KA := am (net_at p ok0 nb round nz sv cv i hi w hN)
 have hN12 : p.N ≤ 12 := by have := ok0.hc.n12; have := ok0.hN; omega
 have HH := am hN
 have HI := am (show i < nz.length by omega)
 obtain ⟨x, y, hz⟩ : ∃ x y, gz nz i = (x, y) := ⟨_, _, rfl⟩
 rw [hz]
 simp only
 have HZ := am hz
 clear h hN hS hC hl hi hz ok0
 go_enter Tryz.func25, Tryz.ntmps25
 go_wp2_with (go_at_call 49; refine KA.out.mono ?_; rintro e W1 ⟨rfl, hb⟩; have nn := (HH.out.below hb).ncells i HI.out; have HB := am hb; clear hb; rw [HZ.out] at nn; simp only at nn)
 go_ret
 exact ⟨rfl, HB.out⟩
end Go.Proofs.YtgcgglmmfgmaoaaGreat.PK
end
