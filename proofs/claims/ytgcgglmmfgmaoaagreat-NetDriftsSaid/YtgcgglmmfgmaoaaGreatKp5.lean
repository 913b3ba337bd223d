/- A part of the proof, without conditions of its own. -/
import Derived.Test.YtgcgglmmfgmaoaaGreatKp4
set_option linter.unusedVariables false
set_option linter.unusedSimpArgs false
set_option maxHeartbeats 16000000
set_option maxRecDepth 100000
section
namespace Go.Proofs.YtgcgglmmfgmaoaaGreat.PK
open Go Go.RowKit Go.Proofs.YtgcgglmmfgmaoaaGreatW.PrintWords Go.Proofs.YtgcgglmmfgmaoaaGreatW.PrintLast Go.Proofs.YtgcgglmmfgmaoaaGreatW.PrintMore
attribute [local go_sem] max2_int min2_int max_two min_two
theorem hits_none {f : Ft} (h : f.kind = 0) (n a b : Int) : f.hits n a b = false := by unfold Ft.hits; simp [h]
theorem emit_none {f : Ft} (h : f.kind = 0) (c : Cf) (round slot a b : Int) (base : List UInt8) : f.emit c round slot a b base = base := by
 unfold Ft.emit
 rw [if_pos (.inl (hits_none h _ _ _))]
def AllE (s : List Sd) : Prop := ∀ x ∈ s, x.o = [] ∧ x.d = []
theorem AllE.get {s : List Sd} (h : AllE s) (i : Nat) : (s.getD i zSd).o = [] ∧ (s.getD i zSd).d = [] := by
 rw [List.getD_eq_getElem?_getD]
 cases hi : s[i]? with
 | none => exact ⟨rfl, rfl⟩
 | some x => exact h x (List.mem_of_getElem? hi)
theorem AllE.set {s : List Sd} (h : AllE s) (i : Nat) (x : Sd) (hx : x.o = [] ∧ x.d = []) : AllE (s.set i x) := fun y hy => by
 rcases List.mem_or_eq_of_mem_set hy with h1 | h1
 ·exact h y h1
 ·rw [h1]; exact hx
theorem cleanL_nil_q : cleanL [] = [] := by unfold cleanL; simp
theorem come_nil {p : WvP} (hk : p.f.kind = 0) {s : List Sd} (h : AllE s) (d : List Bool) (node back : Int) : p.come s d node back = [] := by
 unfold WvP.come
 split
 ·rfl
 ·rw [emit_none hk, (h.get _).1, cleanL_nil_q]
theorem guardL_nil (pi st dv : Int) : guardL pi st dv [] = [] := by unfold guardL; split <;> rfl
theorem laneL_nil (cmp : Bool) (s : List UInt8) : laneL cmp [] s = [] := by unfold laneL; simp
theorem side_nil {p : WvP} (hk : p.f.kind = 0) {s : List Sd} (h : AllE s) (d : List Bool) (x far : Int) : (p.side s d x far).o = [] ∧ (p.side s d x far).d = [] := by
 have hd : p.dirL s d x far = [] := by
  unfold WvP.dirL
  rw [come_nil hk h]
  split
  ·exact guardL_nil _ _ _
  ·rfl
 refine ⟨?_, hd⟩
 show p.outL s d x far = []
 unfold WvP.outL
 split
 ·rfl
 ·rw [hd]; exact laneL_nil _ _
theorem go_nil {p : WvP} (hk : p.f.kind = 0) : ∀ (l : List Int) (k : Int) (s : List Sd) (d : List Bool), AllE s → AllE (p.go l k s d)
 | [], _, _, _, h => h
 | x :: l, k, s, d, h => go_nil hk l _ _ _ (h.set _ _ (side_nil hk h d x (k + 1)))
theorem putO_nil : ∀ (l : List Int) (q : List (List UInt8)) (s : List Sd), (∀ t ∈ q, t = []) → AllE s → AllE (putO l q s)
 | [], _, _, _, h => h
 | _ :: _, [], _, _, h => h
 | x :: l, t :: q, s, hq, h => putO_nil l q _ (fun u hu => hq u (by simp [hu])) (h.set _ _ ⟨hq t (by simp), (h.get _).2⟩)
theorem sides_nil {p : NtP} (hk : p.s.f.kind = 0) (round s dir : Int) {sends : List (List UInt8)} (hs : ∀ t ∈ sends, t = []) (states devs : List Int) : AllE (sidesZ p round s dir sends states devs) := by
 unfold sidesZ WvP.runL
 exact go_nil (p := ⟨p.c, none, 0, p.s.f, none, 0, none, 0, round, s, dir, states, none, 0, devs, none, 0, p.N, 0, 0, 0⟩) hk _ _ _ _ (putO_nil _ _ _ hs (fun x hx => by rw [List.eq_of_mem_replicate hx]; exact ⟨rfl, rfl⟩))
theorem openL_nil : openL [] = none := by rfl
theorem rightL_nil (c : Cf) (round slot : Int) : rightL c round slot [] = none := by
 unfold rightL readL
 rw [openL_nil]; rfl
theorem takenOf_nil (c : Cf) (round slot : Int) (b : Bool) : takenOf c round slot [] b = [] := by
 unfold takenOf
 rw [rightL_nil]
 split <;> rfl
theorem pickL_nil (c : Cf) (round slot : Int) (af bf : Int) : pickL c round slot [] [] [] [] af bf = none := by
 have e : ∀ a b : Bool, twoOf c round slot [] [] a b 2 = [] := fun a b => by
  show takenOf _ _ _ _ _ ++ takenOf _ _ _ _ _ = _
  rw [takenOf_nil, takenOf_nil]; rfl
 unfold pickL compT direT
 rw [e, e]; rfl
theorem tookZ_nil {p : NtP} (round s : Int) (ow : List Int) (nz : List Nz) {up down : List Sd} (hu : AllE up) (hd : AllE down) (i : Nat) : tookZ p round s ow nz up down i = none := by
 unfold tookZ
 split
 ·rfl
 ·rw [(hu.get i).1, (hu.get i).2, (hd.get i).1, (hd.get i).2]
  exact pickL_nil _ _ _ _ _
def Mute (p : NtP) (x : Nd) (s : Int) : Prop := kindI x.st = 0 ∨ (¬ s < p.c.n ∧ kindI x.st ≠ 3)
theorem frameZ_mute {p : NtP} {round : Int} {nz : List Nz} {i : Nat} {s : Int} (h : Mute p (gz nz i).1 s) : frameZ p round nz i s = (none, nz) := if_pos h
theorem sendL_mute {p : NtP} {round s : Int} {nz : List Nz} : ∀ (l : List Int) (sends : List (List UInt8)), (∀ i ∈ l, Mute p (gz nz i.toNat).1 s) → (∀ t ∈ sends, t = []) →
  ∃ q, sendL p round s l nz (List.replicate p.N []) sends = (nz, List.replicate p.N [], q) ∧ ∀ t ∈ q, t = []
 | [], sends, _, hs => ⟨sends, rfl, hs⟩
 | i :: r, sends, h, hs => by
  have h1 := frameZ_mute (round := round) (h i (by simp))
  have e : (List.replicate p.N ([] : List UInt8)).getD i.toNat [] = [] := by
   rw [List.getD_eq_getElem?_getD, List.getElem?_replicate]
   split <;> rfl
  obtain ⟨q, hq, hq2⟩ := sendL_mute (p := p) (round := round) (s := s) (nz := nz) r (sends ++ [[]]) (fun j hj => h j (by simp [hj])) (fun t ht => by
   rcases List.mem_append.1 ht with h2 | h2
   ·exact hs t h2
   ·simpa using h2)
  refine ⟨q, ?_, hq2⟩
  show sendL p round s r (frameZ p round nz i.toNat s).2 _ _ = _
  rw [h1]
  simp only [e]
  exact hq
theorem runZ_mute {p : NtP} (hk : p.s.f.kind = 0) (round s : Int) (nz : List Nz) (h : ∀ i ∈ p.c.owners s, Mute p (gz nz i.toNat).1 s) : (runZ p round nz s).1 = nz ∧ (runZ p round nz s).2.took = List.replicate p.N none := by
 obtain ⟨q, hq, hq2⟩ := sendL_mute (p := p) (round := round) (s := s) (nz := nz) (p.c.owners s) [] h (by simp)
 unfold runZ
 simp only [hq]
 split
 ·exact ⟨rfl, rfl⟩
 ·refine ⟨rfl, ?_⟩
  refine List.eq_replicate_iff.2 ⟨by simp, fun b hb => ?_⟩
  obtain ⟨i, _, rfl⟩ := List.mem_map.1 hb
  exact tookZ_nil _ _ _ _ (sides_nil hk _ _ _ hq2 _ _) (sides_nil hk _ _ _ hq2 _ _) i
theorem mute_listen {p : NtP} {x : Nd} (s : Int) (h : x.st = 0 ∨ x.st = 1) : Mute p x s := by
 left
 unfold kindI
 rcases h with h | h <;> rw [h] <;> rfl
theorem slotsN_mute {p : NtP} (hk : p.s.f.kind = 0) (round : Int) (nz : List Nz) (h : ∀ i, (gz nz i).1.st = 0 ∨ (gz nz i).1.st = 1) : ∀ k, (slotsN p round k nz).1 = nz ∧ ∀ x ∈ (slotsN p round k nz).2, x.took = List.replicate p.N none
 | 0 => ⟨rfl, by simp [slotsN]⟩
 | k + 1 => by
  obtain ⟨h1, h2⟩ := slotsN_mute hk round nz h k
  have h3 := runZ_mute hk round k nz (fun i _ => mute_listen _ (h i.toNat))
  unfold slotsN
  rw [h1]
  refine ⟨h3.1, fun x hx => ?_⟩
  rcases List.mem_append.1 hx with hx | hx
  ·exact h2 x hx
  ·obtain rfl := List.mem_singleton.1 hx
   exact h3.2
theorem heardZ_nil {p : NtP} {round : Int} {nz : List Nz} {l : List Sl} {i : Nat} (h : ∀ k, tookAt l k i = none) : ∀ n, heardZ p round nz l i n = []
 | 0 => rfl
 | n + 1 => by rw [heardZ, h n]; exact heardZ_nil h n
theorem tookAt_nil {N : Nat} {l : List Sl} (h : ∀ x ∈ l, x.took = List.replicate N none) (k i : Nat) : tookAt l k i = none := by
 unfold tookAt
 rw [List.getD_eq_getElem?_getD, List.getD_eq_getElem?_getD]
 cases hk : l[k]? with
 | none => rfl
 | some x =>
  show (x.took[i]?).getD none = none
  rw [h x (List.mem_of_getElem? hk), List.getElem?_replicate]
  split <;> rfl
theorem powN_len (p : NtP) (round : Int) : ∀ (k : Nat) (nz : List Nz), (powN p round k nz).length = nz.length
 | 0, _ => rfl
 | k + 1, nz => by rw [powN, List.length_set, powN_len p round k nz]
theorem powN_gz (p : NtP) (round : Int) (nz : List Nz) (i : Nat) (hi : i < nz.length) : ∀ k, gz (powN p round k nz) i = if i < k then powZ p round i (gz nz i) else gz nz i
 | 0 => rfl
 | k + 1 => by
  have ih := powN_gz p round nz i hi k
  rw [powN]
  by_cases hk : k = i
  ·subst hk
   rw [gz_set _ (by rw [powN_len]; exact hi), ih, if_neg (by omega), if_pos (by omega)]
  ·rw [gz_set_ne _ _ hk, ih]
   by_cases h2 : i < k
   ·rw [if_pos h2, if_pos (by omega)]
   ·rw [if_neg h2, if_neg (by omega)]
theorem powR_none {p : NtP} (hk : p.s.f.kind ≠ 1) (round : Int) (nz : List Nz) : powR p round nz = nz := if_neg (fun h => hk h.1)
theorem gz_out {nz : List Nz} {i : Nat} (h : ¬ i < nz.length) : gz nz i = zNz := by
 unfold gz
 rw [List.getD_eq_getElem?_getD, List.getElem?_eq_none (by omega)]
 rfl
theorem gz_fst {nz : List Nz} {l : List Nd} (h : nz.map (fun z => z.1) = l) {i : Nat} {x : Nd} (hx : l[i]? = some x) : (gz nz i).1 = x := by
 subst h
 rw [List.getElem?_map] at hx
 obtain ⟨z, hz, rfl⟩ := Option.map_eq_some_iff.1 hx
 unfold gz
 rw [List.getD_eq_getElem?_getD, hz]; rfl
end Go.Proofs.YtgcgglmmfgmaoaaGreat.PK
end
section
namespace Go.Proofs.YtgcgglmmfgmaoaaGreat.PK
open Go Go.RowKit Go.Proofs.YtgcgglmmfgmaoaaGreatW.PrintWords Go.Proofs.YtgcgglmmfgmaoaaGreatW.PrintLast Go.Proofs.YtgcgglmmfgmaoaaGreatW.PrintMore
attribute [local go_sem] max2_int min2_int max_two min_two
theorem net_New_err (c : Cf) (s : Sc) (A : Option Addr) (m : Nat) (a : ScA) (w : World) (hC : c.C w A m) (hl : c.pairs.length ≤ 1000000) (he : c.err ≠ 0) :
  Calls Tryz.prog 18 #[c.v A m, s.v a] w fun e w' => e = .returned (.tuple #[.pointer none, .int .i64 c.err]) ∧ Below w.heap.size w w' := by
 have KK := am (fun W hW => conf_Check c A m hl W hW)
 have HCw := am hC
 have hb : (c.err != 0) = true := by simpa using he
 generalize c.err = er at *
 clear hC hl he
 go_enter Tryz.func18, Tryz.ntmps18
 go_upto_region 1 with (fail)
 have HB := am (b_tr (b_al w (.cells #[.int .i64 c.n, .int .i64 c.pi, .int .i64 c.e, .int .i64 c.g, .int .i64 c.first, .slice A c.pairs.length m] 24)) (b_al _ (.cells #[.slice a.Ao s.on.length a.mo, .slice a.Ad s.drifts.length a.md, .slice a.Ae s.errs.length a.me, .slice a.Ac s.calls.length a.mc, .int .i64 s.f.kind, .int .i64 s.f.at_, .int .i64 s.f.frm, .int .i64 s.f.to_, .slice a.AA s.f.acts.length a.ma, .slice a.AD s.f.devs.length a.mD, .int .i64 s.rounds] 36)))
 have HCB := am (blk_alloc (blk_new w (.cells #[.int .i64 c.n, .int .i64 c.pi, .int .i64 c.e, .int .i64 c.g, .int .i64 c.first, .slice A c.pairs.length m] 24)) (.cells #[.slice a.Ao s.on.length a.mo, .slice a.Ad s.drifts.length a.md, .slice a.Ae s.errs.length a.me, .slice a.Ac s.calls.length a.mc, .int .i64 s.f.kind, .int .i64 s.f.at_, .int .i64 s.f.frm, .int .i64 s.f.to_, .slice a.AA s.f.acts.length a.ma, .slice a.AD s.f.devs.length a.mD, .int .i64 s.rounds] 36))
 generalize (w.alloc (.cells #[.int .i64 c.n, .int .i64 c.pi, .int .i64 c.e, .int .i64 c.g, .int .i64 c.first, .slice A c.pairs.length m] 24)).alloc (.cells #[.slice a.Ao s.on.length a.mo, .slice a.Ad s.drifts.length a.md, .slice a.Ae s.errs.length a.me, .slice a.Ac s.calls.length a.mc, .int .i64 s.f.kind, .int .i64 s.f.at_, .int .i64 s.f.frm, .int .i64 s.f.to_, .slice a.AA s.f.acts.length a.ma, .slice a.AD s.f.devs.length a.mD, .int .i64 s.rounds] 36) = W1 at *
 have cc := cells6 HCB.out
 go_wp2_with (go_at_call 36; refine (KK.out _ (HCw.out.below HB.out)).mono ?_; rintro e W ⟨rfl, hb1⟩; replace HB := am (b_tr HB.out hb1); clear hb1 cc)
 go_ret2
 exact ⟨rfl, HB.out⟩
def kCf : Cf := ⟨6, 4, 0, 0, 0, []⟩
def kSc : Sc := ⟨[0, 0, 0, 0, 0, 0], [], [], [], ⟨0, 0, 0, 0, [], []⟩, 1⟩
theorem kCf_ok : kCf.OK := ⟨by decide, by decide, by decide, by decide, by decide, by decide, by decide, by decide, by decide, by decide, by decide, by simp [kCf]⟩
theorem kSc_ok : kSc.OK kCf := ⟨by decide, by decide, by decide, by decide, by decide, by decide, by simp [kSc], by simp [kSc], ⟨by decide, by decide, by decide, by decide, by decide, by decide, by decide, by decide, by decide, by simp [kSc]⟩⟩
theorem known_step (p : NtP) (hc : p.c = kCf) (hs : p.s = kSc) (hN : p.N = 6) (hQ : p.Q = 6) (nz : List Nz) (hz : nz.map (fun z => z.1) = List.replicate 6 (nd0 6)) : ∀ i, i < 6 → ∃ x, (stepN p 0 nz)[i]? = some x ∧ x.st = 1 ∧ x.tm = 1 := by
 intro i hi
 have hl : nz.length = 6 := by have := congrArg List.length hz; simpa using this
 have hk : p.s.f.kind = 0 := by rw [hs]; rfl
 have h0 : ∀ j, j < 6 → (gz nz j).1 = nd0 6 := fun j hj => gz_fst hz (by rw [List.getElem?_replicate, if_pos hj])
 have hpow : ∀ j, j < 6 → (nd0 6).pow p 0 j = { nd0 6 with st := 1 } := fun j hj => by
  unfold Nd.pow
  rw [hs]
  have e : rd kSc.on j = 0 := by
   match j, hj with
   | 0, _ => rfl
   | 1, _ => rfl
   | 2, _ => rfl
   | 3, _ => rfl
   | 4, _ => rfl
   | 5, _ => rfl
  rw [e]
  show ({ nd0 6 with st := 1, tm := 0, ck := wrap64 ((nd0 6).ck + pickI [] (11 * 0 + j) p.c.g) } : Nd) = _
  rw [show pickI [] (11 * 0 + (j : Int)) p.c.g = 0 from rfl, show wrap64 ((nd0 6).ck + 0) = 0 from w64_q 0 (by omega) (by omega)]
  rfl
 have hgz : ∀ j, j < 6 → (gz (hostsZ p 0 nz).1 j).1 = { nd0 6 with st := 1 } := fun j hj => by
  have e1 : (hostsZ p 0 nz).1 = powN p 0 p.N nz := by
   unfold hostsZ
   rw [hs, powR_none (by rw [hk]; decide)]
   rfl
  rw [e1, powN_gz p 0 nz j (by omega), if_pos (by omega)]
  show ((gz nz j).1.pow p 0 j) = _
  rw [h0 j hj, hpow j hj]
 have hlen : (hostsZ p 0 nz).1.length = 6 := (hostsZ_sg p 0 nz).1.trans hl
 have hst : ∀ j, (gz (hostsZ p 0 nz).1 j).1.st = 0 ∨ (gz (hostsZ p 0 nz).1 j).1.st = 1 := fun j => by
  by_cases hj : j < 6
  ·right; rw [hgz j hj]
  ·left; rw [gz_out (by omega)]; rfl
 obtain ⟨m1, m2⟩ := slotsN_mute hk 0 _ hst p.Q
 have hh : heardZ p 0 (slotsZ p 0 nz).1 (slotsZ p 0 nz).2 i p.N = [] := heardZ_nil (fun k => tookAt_nil m2 k i) _
 have e1 : (slotsZ p 0 nz).1 = (hostsZ p 0 nz).1 := m1
 refine ⟨endZ p 0 (slotsZ p 0 nz).1 (slotsZ p 0 nz).2 i, by unfold stepN; rw [List.getElem?_map, List.getElem?_range (by omega)]; rfl, ?_, ?_⟩
 ·unfold endZ
  rw [hh, e1, hgz i hi, hc]
  match i, hi with
  | 0, _ => rfl
  | 1, _ => rfl
  | 2, _ => rfl
  | 3, _ => rfl
  | 4, _ => rfl
  | 5, _ => rfl
 ·unfold endZ
  rw [hh, e1, hgz i hi, hc]
  match i, hi with
  | 0, _ => rfl
  | 1, _ => rfl
  | 2, _ => rfl
  | 3, _ => rfl
  | 4, _ => rfl
  | 5, _ => rfl
theorem known_calls (w : World) : Calls Tryz.prog 13 #[] w fun e w' => e = .returned (.bool true) ∧ Below w.heap.size w w' := by
 have K0 := am (fun W => net_New_err ⟨0, 0, 0, 0, 0, []⟩ ⟨[], [], [], [], ⟨0, 0, 0, 0, [], []⟩, 0⟩ none 0 ⟨none, 0, none, 0, none, 0, none, 0, none, 0, none, 0⟩ W ⟨Kd.C_nil _ _, Nat.le_refl _⟩ (by simp) (by decide))
 have e1 : Cf.err ⟨0, 0, 0, 0, 0, []⟩ = 1 := by rfl
 rw [e1] at K0
 clear e1
 have hmk : ∀ W : World, (Instr.makeSlice 22 (.int .i64 6) (.int .i64 6)).run Tryz.prog W = .ok (.slice (some ⟨W.heap.size, 0, none⟩) 6 6) (W.alloc (.cells #[.int .i64 0, .int .i64 0, .int .i64 0, .int .i64 0, .int .i64 0, .int .i64 0] 3)) := fun W =>
  make_run (P := Tryz.prog) 22 3 [.int .i64 0] (.int .i64 0) 8 Tryz.underlying22 info_int9 rfl (by simp) 6 6 rfl (by omega) (by omega) W
 go_enter Tryz.func13, Tryz.ntmps13
 go_upto_region 2 with (go_at_call 18; refine (K0.out _).mono ?_; rintro e W1 ⟨rfl, hb⟩; have HB := am hb; clear hb)
 clear K0
 go_upto_region 3 with (go_at_call 18; have KN := net_New kCf kCf_ok kSc kSc_ok 6 6 rfl rfl none 0 ⟨some ⟨W1.heap.size, 0, none⟩, 6, none, 0, none, 0, none, 0, none, 0, none, 0⟩ (W1.alloc (.cells #[.int .i64 0, .int .i64 0, .int .i64 0, .int .i64 0, .int .i64 0, .int .i64 0] 3)) ⟨Kd.C_nil _ _, Nat.le_refl _⟩ ⟨⟨(RdT.ints (l := [0, 0, 0, 0, 0, 0]) (blk_new W1 _) (by simp)).C.1, Nat.le_refl _⟩, ⟨Kd.C_nil _ _, Nat.le_refl _⟩, ⟨Kd.C_nil _ _, Nat.le_refl _⟩, ⟨Kd.C_nil _ _, Nat.le_refl _⟩, ⟨⟨Kd.C_nil _ _, Nat.le_refl _⟩, ⟨Kd.C_nil _ _, Nat.le_refl _⟩⟩⟩; refine Calls.mono KN ?_; rintro e W2 ⟨p, ok, hpc, hps, hpN, hpQ, rfl, ⟨nb, nz, hNI, hz, hfs⟩, hb⟩; have HFS := am (fun k hk => Nat.le_trans (b_tr HB.out (b_al W1 (.cells #[.int .i64 0, .int .i64 0, .int .i64 0, .int .i64 0, .int .i64 0, .int .i64 0] 3))).size (hfs k hk)); have OK := am ok; have HP := am (And.intro hpc (And.intro hps (And.intro hpN hpQ))); have HI := am hNI; have HZ := am hz; have HB2 := am (b_tr HB.out (b_tr (b_al W1 _) hb)); clear KN ok hpc hps hpN hpQ hNI hz hfs hb)
 clear hmk HB
 have h00 := am (show (gz nz 0).1 = nd0 6 from gz_fst HZ.out rfl)
 have hstep := am (known_step p HP.out.1 HP.out.2.1 HP.out.2.2.1 HP.out.2.2.2 nz HZ.out)
 have KS := am (net_State p OK.out nb 0 nz [] [] 0 (by rw [HP.out.2.2.1]; decide) W2 HI.out)
 rw [h00.out] at KS
 go_upto_region 6 with (go_at_call 21; refine Calls.mono KS.out ?_; rintro e W3 ⟨rfl, hb⟩; have HI3 := am (HI.out.below hb); have HB3 := am (b_tr HB2.out hb); clear hb HI HB2)
 clear KS
 have KT := am (net_Step_go p OK.out nb 0 (Int.le_refl _) nz [] [] W3 HI3.out (by rw [HP.out.2.1]; decide))
 go_upto_region 7 with (go_at_call 19; refine Calls.mono KT.out ?_; rintro e W4 ⟨rfl, ⟨nb', nz', hN, hm, -⟩, hk⟩; have HI4 := am hN; have HM := am hm; have HK4 := am hk; clear hN hm hk)
 clear KT
 obtain ⟨x, hx, hx1, hx2⟩ := hstep.out 5 (by decide)
 have h55 := am (show (gz nz' 5).1 = x from gz_fst HM.out hx)
 have KS := am (net_State p OK.out nb' (0 + 1) nz' _ _ 5 (by rw [HP.out.2.2.1]; decide) W4 HI4.out)
 rw [h55.out, hx1, hx2] at KS
 clear hx hx1 hx2
 go_upto_region 8 with (go_at_call 21; refine Calls.mono KS.out ?_; rintro e W5 ⟨rfl, hb⟩; have HI5 := am (HI4.out.below hb); have HB5 := am hb; clear hb HI4)
 clear KS
 have KR := am (net_Round p nb' (0 + 1) nz' _ _ W5 HI5.out)
 go_wp2_with (first
  | (go_at_call 29; refine Calls.mono KR.out ?_; rintro e W6 ⟨rfl, hb⟩; have KD := am (net_Step_done p nb' (0 + 1) nz' _ _ W6 (HI5.out.below hb) (by rw [HP.out.2.1]; decide)); have HB6 := am (b_tr HB5.out hb); clear hb)
  | (go_at_call 19; refine Calls.mono KD.out ?_; rintro e W7 ⟨rfl, hb⟩; have HB7 := am (b_tr HB6.out hb); clear hb))
 go_ret
 refine ⟨rfl, ?_⟩
 have b4 : Below w.heap.size w W4 := HB3.out.trans (HK4.out.below HB3.out.size (fun i hi hf => by have := HFS.out i hf; omega))
 exact b_tr b4 HB7.out
end Go.Proofs.YtgcgglmmfgmaoaaGreat.PK
end
section
namespace Go.Proofs.YtgcgglmmfgmaoaaGreat.PK
open Go Go.RowKit Go.Proofs.YtgcgglmmfgmaoaaGreatW.PrintWords Go.Proofs.YtgcgglmmfgmaoaaGreatW.PrintLast Go.Proofs.YtgcgglmmfgmaoaaGreatW.PrintMore
attribute [local go_sem] max2_int min2_int max_two min_two
theorem wit3 (a n : Int) (h0 : 0 < n) (h1 : n ≤ 4611686018427387904) (w : World) : Calls Tryz.prog 53 #[.int .i64 a, .int .i64 n] w fun e w' => e = .returned (.int .i64 (a % n)) ∧ w' = w := by
 have h2 := tmod_emod_q a n h0
 have h3 := tmod_range_q a n h0
 have q0 : (n == 0) = false := beq_eq_false_iff_ne.2 (by omega)
 have q9 : (n != 0) = true := bne_iff_ne.2 (by omega)
 have q8 : ¬ n = 0 := by omega
 have hw : wrap64 (Int.tmod a n + n) = Int.tmod a n + n := w64_q _ (by omega) (by omega)
 clear h0 h1 h3
 by_cases c : (Int.tmod a n) < 0
 ·rw [if_pos c, ← hw] at h2
  rw [← h2]
  have q1 : decide ((Int.tmod a n) < 0) = true := decide_eq_true c
  clear h2 c hw
  go_enter Tryz.func53, Tryz.ntmps53
  go_wp2
  go_ret
  exact ⟨rfl, rfl⟩
 ·rw [if_neg c] at h2
  rw [← h2]
  have q1 : decide ((Int.tmod a n) < 0) = false := decide_eq_false c
  clear h2 c hw
  go_enter Tryz.func53, Tryz.ntmps53
  go_wp2
  go_ret
  exact ⟨rfl, rfl⟩
theorem wit17 (a n : Int) (h0 : 0 < n) (h1 : n ≤ 4611686018427387904) (w : World) : Calls Tryz.prog 16 #[.int .i64 a, .int .i64 n] w fun e w' => e = .returned (.int .i64 (a % n)) ∧ w' = w := by
 have h2 := tmod_emod_q a n h0
 have h3 := tmod_range_q a n h0
 have q0 : (n == 0) = false := beq_eq_false_iff_ne.2 (by omega)
 have q9 : (n != 0) = true := bne_iff_ne.2 (by omega)
 have q8 : ¬ n = 0 := by omega
 have hw : wrap64 (Int.tmod a n + n) = Int.tmod a n + n := w64_q _ (by omega) (by omega)
 clear h0 h1 h3
 by_cases c : (Int.tmod a n) < 0
 ·rw [if_pos c, ← hw] at h2
  rw [← h2]
  have q1 : decide ((Int.tmod a n) < 0) = true := decide_eq_true c
  clear h2 c hw
  go_enter Tryz.func16, Tryz.ntmps16
  go_wp2
  go_ret
  exact ⟨rfl, rfl⟩
 ·rw [if_neg c] at h2
  rw [← h2]
  have q1 : decide ((Int.tmod a n) < 0) = false := decide_eq_false c
  clear h2 c hw
  go_enter Tryz.func16, Tryz.ntmps16
  go_wp2
  go_ret
  exact ⟨rfl, rfl⟩
def RdT0 {α : Type} (d : Kd α) (W : World) (v : Value) (xs : List α) : Prop := ∃ (A : Option Addr) (m : Nat), v = .slice A xs.length m ∧ xs.length ≤ m ∧ d.C W A xs.length xs
theorem RdT.take {α : Type} {d : Kd α} {T : Nat} {W : World} {A : Option Addr} {m : Nat} {xs : List α} (h : RdT d T W (.slice A xs.length m) xs) (k : Nat) (hk : k ≤ xs.length) : RdT d T W (.slice A k m) (xs.take k) := by
 obtain ⟨A', m', e, h2, ⟨h3, h4, h5⟩, h6⟩ := h
 injection e with e1 e2 e3
 subst e1 e3
 have hl : (xs.take k).length = k := by rw [List.length_take]; omega
 refine ⟨A, m, by rw [hl], by omega, ⟨rfl, by omega, fun h0 => ?_⟩, h6⟩
 obtain ⟨ad, hA, hc⟩ := h5 (by omega)
 refine ⟨ad, hA, fun j p hj => hc j p ?_⟩
 have hjk : j < k := by have := (List.getElem?_eq_some_iff.1 hj).1; omega
 rwa [List.getElem?_take_of_lt hjk] at hj
theorem RdT0.int_at {W : World} {A : Option Addr} {m : Nat} {xs : List Int} (h : RdT0 (Kd.int .i64) W (.slice A xs.length m) xs) (i : Nat) (hi : i < xs.length) : ∃ ad, A = some ad ∧ W.cell? (ad.add i) = some (.int .i64 (rd xs i)) := by
 obtain ⟨A', m', e, _, _, _, h6⟩ := h
 injection e with e1 e2 e3
 subst e1
 obtain ⟨ad, hA, hc⟩ := h6 (by omega)
 refine ⟨ad, hA, ?_⟩
 have hj : xs[i]? = some xs[i] := List.getElem?_eq_getElem hi
 obtain ⟨c, _, e2, e3⟩ := hc i _ hj
 obtain rfl : c = [.int .i64 xs[i]] := e2
 have h9 := e3 0 _ rfl
 have e4 : rd xs (i : Int) = xs[i] := by unfold rd; rw [Int.toNat_natCast, List.getD_eq_getElem?_getD, hj]; rfl
 rw [e4]
 simpa [show (Kd.int .i64).sz = 1 from rfl] using h9
def mkC (n pi e g f : Int) (l : List Int) : Cf :=
 ⟨6 + n % 7, 4 * (e % 21 + g % 21 + 1) + pi % 100, e % 21, g % 21, if f % 3 = 0 then 65535 - f % 40 else f % 65536, (l.take 3).map fun x => x % (6 + n % 7 + 1) - 1⟩
theorem mkC_ok (n pi e g f : Int) (l : List Int) : (mkC n pi e g f l).OK := by
 refine ⟨?_, ?_, ?_, ?_, ?_, ?_, ?_, ?_, ?_, ?_, ?_, fun x hx => ?_⟩ <;> try (show (_ : Int) ≤ _; unfold mkC; simp only; omega)
 ·show ((l.take 3).map fun x => x % (6 + n % 7 + 1) - 1).length ≤ 3
  simp; omega
 ·obtain ⟨y, _, rfl⟩ := List.mem_map.1 (show x ∈ (l.take 3).map fun x => x % (6 + n % 7 + 1) - 1 from hx)
  show -1 ≤ y % (6 + n % 7 + 1) - 1 ∧ y % (6 + n % 7 + 1) - 1 < 6 + n % 7
  have := Int.emod_nonneg y (show 6 + n % 7 + 1 ≠ 0 by omega)
  have := Int.emod_lt_of_pos y (show 0 < 6 + n % 7 + 1 by omega)
  omega
theorem law3_Make (n pi e g f : Int) (l : List Int) (A : Option Addr) (m : Nat) (w : World) (hr : Kd.C (Kd.int .i64) w A l.length l) (hm : l.length ≤ m) :
  Calls Tryz.prog 33 #[.agg #[.int .i64 n, .int .i64 pi, .int .i64 e, .int .i64 g, .int .i64 f, .slice A l.length m]] w fun e' w' => ∃ (A' : Option Addr) (m' : Nat), e' = .returned ((mkC n pi e g f l).v A' m') ∧ RdT (Kd.int .i64) 3 w' (.slice A' (mkC n pi e g f l).pairs.length m') (mkC n pi e g f l).pairs ∧ Below w.heap.size w w' := by
 have K0 := am (fun W => wit3 n 7 (by omega) (by omega) W)
 have Ke := am (fun W => wit3 e 21 (by omega) (by omega) W)
 have Kg := am (fun W => wit3 g 21 (by omega) (by omega) W)
 have Kf := am (fun W => wit3 f 65536 (by omega) (by omega) W)
 have Kf3 := am (fun W => wit3 f 3 (by omega) (by omega) W)
 have Kf40 := am (fun W => wit3 f 40 (by omega) (by omega) W)
 have Kpi := am (fun W => wit3 pi 100 (by omega) (by omega) W)
 have HM : Aside0 (mkC n pi e g f l = ⟨6 + n % 7, 4 * (e % 21 + g % 21 + 1) + pi % 100, e % 21, g % 21, if f % 3 = 0 then 65535 - f % 40 else f % 65536, (l.take 3).map fun x => x % (6 + n % 7 + 1) - 1⟩) := ⟨rfl⟩
 have b0 : 0 ≤ n % 7 ∧ n % 7 < 7 := by omega
 have be : 0 ≤ e % 21 ∧ e % 21 < 21 := by omega
 have bg : 0 ≤ g % 21 ∧ g % 21 < 21 := by omega
 have bf : 0 ≤ f % 65536 ∧ f % 65536 < 65536 := by omega
 have b4 : 0 ≤ f % 40 ∧ f % 40 < 40 := by omega
 have bp : 0 ≤ pi % 100 ∧ pi % 100 < 100 := by omega
 have hRT := am hr
 generalize mkC n pi e g f l = C at *
 generalize n % 7 = r0 at *
 generalize e % 21 = re at *
 generalize g % 21 = rg at *
 generalize f % 65536 = rf at *
 generalize f % 40 = r4 at *
 generalize f % 3 = r3 at *
 generalize pi % 100 = rp at *
 have BB := am (And.intro b0 (And.intro be (And.intro bg (And.intro bf (And.intro b4 bp)))))
 have hml := am hm
 clear hr hm
 have hu := Tryz.underlying24
 go_enter Tryz.func33, Tryz.ntmps33
 go_upto_region 1 with (fail)
 have HB := am (b_tr (b_al w (.cells #[.int .i64 n, .int .i64 pi, .int .i64 e, .int .i64 g, .int .i64 f, .slice A l.length m] 24)) (b_al _ (.cells #[.int .i64 0, .int .i64 0, .int .i64 0, .int .i64 0, .int .i64 0, .slice none 0 0] 24)))
 have HCB := am (blk_alloc (blk_new w (.cells #[.int .i64 n, .int .i64 pi, .int .i64 e, .int .i64 g, .int .i64 f, .slice A l.length m] 24)) (.cells #[.int .i64 0, .int .i64 0, .int .i64 0, .int .i64 0, .int .i64 0, .slice none 0 0] 24))
 have HOB := am (blk_new (w.alloc (.cells #[.int .i64 n, .int .i64 pi, .int .i64 e, .int .i64 g, .int .i64 f, .slice A l.length m] 24)) (.cells #[.int .i64 0, .int .i64 0, .int .i64 0, .int .i64 0, .int .i64 0, .slice none 0 0] 24))
 rw [show (w.alloc (.cells #[.int .i64 n, .int .i64 pi, .int .i64 e, .int .i64 g, .int .i64 f, .slice A l.length m] 24)).heap.size = w.heap.size + 1 by simp] at HOB
 generalize (w.alloc (.cells #[.int .i64 n, .int .i64 pi, .int .i64 e, .int .i64 g, .int .i64 f, .slice A l.length m] 24)).alloc (.cells #[.int .i64 0, .int .i64 0, .int .i64 0, .int .i64 0, .int .i64 0, .slice none 0 0] 24) = W1 at *
 have cc := cells6 HCB.out
 have HN := am (below_drew (Below.refl W1.heap.size W1))
 refine startB (n := 16) (F := fun _ => False) (ds := [15]) (by kernel_rfl) rfl (fun hHeld => ?_)
 refine plan_ [.p 0 5, .t 1 6, .p 4 9, .t 5 10, .p 7 12, .t 8 13, .p 10 15, .t 11 16] ?_
 repeat (first | refine jP ?_ | refine jW hHeld ?_ | refine jG ?_)
 refine planE ?_
 refine join_ (1) (#[true, true, true, true, true, true, true, true, true, true, true, true, true, true, true, false]) (fun (s_ : Nat) => [(7, .int .i64 r0), (8, .int .i64 (wrap64 (6 + r0))), (11, .int .i64 re), (14, .int .i64 rg), (17, .int .i64 rf), (18, .agg #[.int .i64 (wrap64 (6 + r0)), .int .i64 0, .int .i64 re, .int .i64 rg, .int .i64 rf, .slice none 0 0]), (3, .pointer (some ⟨s_, 0, none⟩))]) (fun (s_ : Nat) (w' : World) => Aside0 (W1.heap.size ≤ s_) ∧ Aside0 (w'.heap[s_]? = some (.cells #[.int .i64 0, .int .i64 0, .int .i64 0, .int .i64 0, .int .i64 0, .slice none 0 0] 24 (0, 0))) ∧ Aside0 (Below W1.heap.size W1 w')) ?_ (fun hJ => ?_)
 rotate_left
 refine twoB (i := 2) (j := 14) rfl rfl rfl rfl (by kernel_rfl) (by decide) (by decide) (fun K hK => ?_) (fun K hK => ?_)
 ·refine kC Tryz.func53 #[.int .i64 n, .int .i64 7] ?_
  refine (K0.out _).mono ?_
  rintro e Wn ⟨rfl, rfl⟩
  refine ⟨_, rfl, ?_⟩
  refine hK.out _ _ (Kp.of HN.out) (fun hHeld => ?_)
  clear hK K
  refine jM 7 ?_
  refine plan_ [.p 3 8] ?_
  repeat (first | refine jP ?_ | refine jW hHeld ?_ | refine jG ?_)
  refine planE ?_
  refine twoB (i := 6) (j := 14) rfl rfl rfl rfl (by kernel_rfl) (by decide) (by decide) (fun K hK => ?_) (fun K hK => ?_)
  ·refine kC Tryz.func53 #[.int .i64 e, .int .i64 21] ?_
   refine (Ke.out _).mono ?_
   rintro e Wn ⟨rfl, rfl⟩
   refine ⟨_, rfl, ?_⟩
   refine hK.out _ _ (Kp.of HN.out) (fun hHeld => ?_)
   clear hK K
   refine jM 11 ?_
   refine twoB (i := 9) (j := 14) rfl rfl rfl rfl (by kernel_rfl) (by decide) (by decide) (fun K hK => ?_) (fun K hK => ?_)
   ·refine kC Tryz.func53 #[.int .i64 g, .int .i64 21] ?_
    refine (Kg.out _).mono ?_
    rintro e Wn ⟨rfl, rfl⟩
    refine ⟨_, rfl, ?_⟩
    refine hK.out _ _ (Kp.of HN.out) (fun hHeld => ?_)
    clear hK K
    refine jM 14 ?_
    refine twoB (i := 12) (j := 14) rfl rfl rfl rfl (by kernel_rfl) (by decide) (by decide) (fun K hK => ?_) (fun K hK => ?_)
    ·refine kC Tryz.func53 #[.int .i64 f, .int .i64 65536] ?_
     refine (Kf.out _).mono ?_
     rintro e Wn ⟨rfl, rfl⟩
     refine ⟨_, rfl, ?_⟩
     refine hK.out _ _ (Kp.of HN.out) (fun hHeld => ?_)
     clear hK K
     refine jM 17 ?_
     refine plan_ [.p 13 18] ?_
     repeat (first | refine jP ?_ | refine jW hHeld ?_ | refine jG ?_)
     refine planE ?_
     refine jO 14 (some 3) (fun K hK => ?_)
     refine alloc_ev (.cells #[.int .i64 0, .int .i64 0, .int .i64 0, .int .i64 0, .int .i64 0, .slice none 0 0] 24) (by rfl) rfl (fun w' => by go_simp; try rfl) (fun xb Wn hxe hxb hb => ?_)
     have HS := am (Nat.le_trans HN.out.size hxe)
     replace HN := am (b_tr HN.out hb)
     clear hb
     have HF := am hxb
     clear hxb hxe
     refine hK.out _ _ (Kp.of HN.out) (fun hHeld => ?_)
     clear hK K
     refine jM 3 ?_
     exact goJ (by kernel_rfl) (by simp only [putAll, s0, s1, s2, s3]) (hJ _ _ ⟨HS, HF, HN⟩)
    ·refine alloc_ev (.cells #[.int .i64 0, .int .i64 0, .int .i64 0, .int .i64 0, .int .i64 0, .slice none 0 0] 24) (by rfl) rfl (fun w' => by go_simp; try rfl) (fun xb Wn hxe hxb hb => ?_)
     have HS := am (Nat.le_trans HN.out.size hxe)
     replace HN := am (b_tr HN.out hb)
     clear hb
     have HF := am hxb
     clear hxb hxe
     refine hK.out _ _ (Kp.of HN.out) (fun hHeld => ?_)
     clear hK K
     refine jM 3 ?_
     refine jO 12 (some 17) (fun K hK => ?_)
     refine kC Tryz.func53 #[.int .i64 f, .int .i64 65536] ?_
     refine (Kf.out _).mono ?_
     rintro e Wn ⟨rfl, rfl⟩
     refine ⟨_, rfl, ?_⟩
     refine hK.out _ _ (Kp.of HN.out) (fun hHeld => ?_)
     clear hK K
     refine jM 17 ?_
     refine plan_ [.p 13 18] ?_
     repeat (first | refine jP ?_ | refine jW hHeld ?_ | refine jG ?_)
     refine planE ?_
     exact goJ (by kernel_rfl) (by simp only [putAll, s0, s1, s2, s3]) (hJ _ _ ⟨HS, HF, HN⟩)
   ·refine alloc_ev (.cells #[.int .i64 0, .int .i64 0, .int .i64 0, .int .i64 0, .int .i64 0, .slice none 0 0] 24) (by rfl) rfl (fun w' => by go_simp; try rfl) (fun xb Wn hxe hxb hb => ?_)
    have HS := am (Nat.le_trans HN.out.size hxe)
    replace HN := am (b_tr HN.out hb)
    clear hb
    have HF := am hxb
    clear hxb hxe
    refine hK.out _ _ (Kp.of HN.out) (fun hHeld => ?_)
    clear hK K
    refine jM 3 ?_
    refine jO 9 (some 14) (fun K hK => ?_)
    refine kC Tryz.func53 #[.int .i64 g, .int .i64 21] ?_
    refine (Kg.out _).mono ?_
    rintro e Wn ⟨rfl, rfl⟩
    refine ⟨_, rfl, ?_⟩
    refine hK.out _ _ (Kp.of HN.out) (fun hHeld => ?_)
    clear hK K
    refine jM 14 ?_
    refine jO 12 (some 17) (fun K hK => ?_)
    refine kC Tryz.func53 #[.int .i64 f, .int .i64 65536] ?_
    refine (Kf.out _).mono ?_
    rintro e Wn ⟨rfl, rfl⟩
    refine ⟨_, rfl, ?_⟩
    refine hK.out _ _ (Kp.of HN.out) (fun hHeld => ?_)
    clear hK K
    refine jM 17 ?_
    refine plan_ [.p 13 18] ?_
    repeat (first | refine jP ?_ | refine jW hHeld ?_ | refine jG ?_)
    refine planE ?_
    exact goJ (by kernel_rfl) (by simp only [putAll, s0, s1, s2, s3]) (hJ _ _ ⟨HS, HF, HN⟩)
  ·refine alloc_ev (.cells #[.int .i64 0, .int .i64 0, .int .i64 0, .int .i64 0, .int .i64 0, .slice none 0 0] 24) (by rfl) rfl (fun w' => by go_simp; try rfl) (fun xb Wn hxe hxb hb => ?_)
   have HS := am (Nat.le_trans HN.out.size hxe)
   replace HN := am (b_tr HN.out hb)
   clear hb
   have HF := am hxb
   clear hxb hxe
   refine hK.out _ _ (Kp.of HN.out) (fun hHeld => ?_)
   clear hK K
   refine jM 3 ?_
   refine jO 6 (some 11) (fun K hK => ?_)
   refine kC Tryz.func53 #[.int .i64 e, .int .i64 21] ?_
   refine (Ke.out _).mono ?_
   rintro e Wn ⟨rfl, rfl⟩
   refine ⟨_, rfl, ?_⟩
   refine hK.out _ _ (Kp.of HN.out) (fun hHeld => ?_)
   clear hK K
   refine jM 11 ?_
   refine jO 9 (some 14) (fun K hK => ?_)
   refine kC Tryz.func53 #[.int .i64 g, .int .i64 21] ?_
   refine (Kg.out _).mono ?_
   rintro e Wn ⟨rfl, rfl⟩
   refine ⟨_, rfl, ?_⟩
   refine hK.out _ _ (Kp.of HN.out) (fun hHeld => ?_)
   clear hK K
   refine jM 14 ?_
   refine jO 12 (some 17) (fun K hK => ?_)
   refine kC Tryz.func53 #[.int .i64 f, .int .i64 65536] ?_
   refine (Kf.out _).mono ?_
   rintro e Wn ⟨rfl, rfl⟩
   refine ⟨_, rfl, ?_⟩
   refine hK.out _ _ (Kp.of HN.out) (fun hHeld => ?_)
   clear hK K
   refine jM 17 ?_
   refine plan_ [.p 13 18] ?_
   repeat (first | refine jP ?_ | refine jW hHeld ?_ | refine jG ?_)
   refine planE ?_
   exact goJ (by kernel_rfl) (by simp only [putAll, s0, s1, s2, s3]) (hJ _ _ ⟨HS, HF, HN⟩)
 ·refine alloc_ev (.cells #[.int .i64 0, .int .i64 0, .int .i64 0, .int .i64 0, .int .i64 0, .slice none 0 0] 24) (by rfl) rfl (fun w' => by go_simp; try rfl) (fun xb Wn hxe hxb hb => ?_)
  have HS := am (Nat.le_trans HN.out.size hxe)
  replace HN := am (b_tr HN.out hb)
  clear hb
  have HF := am hxb
  clear hxb hxe
  refine hK.out _ _ (Kp.of HN.out) (fun hHeld => ?_)
  clear hK K
  refine jM 3 ?_
  refine jO 2 (some 7) (fun K hK => ?_)
  refine kC Tryz.func53 #[.int .i64 n, .int .i64 7] ?_
  refine (K0.out _).mono ?_
  rintro e Wn ⟨rfl, rfl⟩
  refine ⟨_, rfl, ?_⟩
  refine hK.out _ _ (Kp.of HN.out) (fun hHeld => ?_)
  clear hK K
  refine jM 7 ?_
  refine plan_ [.p 3 8] ?_
  repeat (first | refine jP ?_ | refine jW hHeld ?_ | refine jG ?_)
  refine planE ?_
  refine jO 6 (some 11) (fun K hK => ?_)
  refine kC Tryz.func53 #[.int .i64 e, .int .i64 21] ?_
  refine (Ke.out _).mono ?_
  rintro e Wn ⟨rfl, rfl⟩
  refine ⟨_, rfl, ?_⟩
  refine hK.out _ _ (Kp.of HN.out) (fun hHeld => ?_)
  clear hK K
  refine jM 11 ?_
  refine jO 9 (some 14) (fun K hK => ?_)
  refine kC Tryz.func53 #[.int .i64 g, .int .i64 21] ?_
  refine (Kg.out _).mono ?_
  rintro e Wn ⟨rfl, rfl⟩
  refine ⟨_, rfl, ?_⟩
  refine hK.out _ _ (Kp.of HN.out) (fun hHeld => ?_)
  clear hK K
  refine jM 14 ?_
  refine jO 12 (some 17) (fun K hK => ?_)
  refine kC Tryz.func53 #[.int .i64 f, .int .i64 65536] ?_
  refine (Kf.out _).mono ?_
  rintro e Wn ⟨rfl, rfl⟩
  refine ⟨_, rfl, ?_⟩
  refine hK.out _ _ (Kp.of HN.out) (fun hHeld => ?_)
  clear hK K
  refine jM 17 ?_
  refine plan_ [.p 13 18] ?_
  repeat (first | refine jP ?_ | refine jW hHeld ?_ | refine jG ?_)
  refine planE ?_
  exact goJ (by kernel_rfl) (by simp only [putAll, s0, s1, s2, s3]) (hJ _ _ ⟨HS, HF, HN⟩)
 rintro gb W2 ⟨HS, HF, HN⟩
 have hHeld := Kp.of (F := fun _ => False) HN.out
 refine norm_ (a' := _) (by simp only [putAll, s0, s1, s2, s3]; rfl) ?_
 refine jL 15 none (fun K hK => ?_)
 refine store_ev (by rfl) rfl _ _ _ rfl gb 0 24 #[.int .i64 (wrap64 (6 + r0)), .int .i64 0, .int .i64 re, .int .i64 rg, .int .i64 rf, .slice none 0 0] [.int .i64 0, .int .i64 0, .int .i64 0, .int .i64 0, .int .i64 0, .slice none 0 0] rfl (by rfl) HF.out (by simp) info_conf (by simp [Value.oneCell']) (fun W3 h3 k3 => ?_)
 have HF3 := am h3
 have K3 := am k3
 clear h3 k3
 refine hK.out _ _ ?_
 clear hK K
 refine done_ (by kernel_rfl) ?_
 have HNv : wrap64 (6 + r0) = 6 + r0 := by have := BB.out; exact w64_q _ (by omega) (by omega)
 generalize wrap64 (6 + r0) = N at *
 have HNN := am HNv
 clear HNv
 have n1 := am (K3.out.blk (blk_below HCB.out HN.out) (fun e => by have := blk_lt HCB.out; have := HS.out; omega))
 have n2 := am (K3.out.blk (blk_below HOB.out HN.out) (fun e => by have := blk_lt HOB.out; have := HS.out; omega))
 have n3 := am (below_kp (b_tr HB.out HN.out) K3.out (Nat.le_trans HB.out.size HS.out) (b_tr HB.out HN.out).size)
 have n4 := am (show W3.heap[gb]? = some (.cells #[.int .i64 N, .int .i64 0, .int .i64 re, .int .i64 rg, .int .i64 rf, .slice none 0 0] 24 (0, 0)) from HF3.out)
 have hgs := am (show w.heap.size + 2 ≤ gb from by have := blk_lt HOB.out; have := HS.out; omega)
 clear HCB HOB HB HN HF HF3 K3 HS hHeld cc K0 Ke Kg Kf
 have HCB := n1
 have HOB := n2
 have HB := n3
 have HG := n4
 clear n1 n2 n3 n4
 have cc := cells6 HCB.out
 have y4 : W3.cell? ⟨gb, 4, none⟩ = some (.int .i64 rf) := (blk_cell HG.out 4).trans rfl
 have yf4 := blk_frozen HG.out 4
 obtain ⟨fi, hfi⟩ : ∃ fi, fi = if r3 = 0 then 65535 - r4 else rf := ⟨_, rfl⟩
 have HFI := am hfi
 have hw4 : wrap64 (65535 - r4) = 65535 - r4 := by have := BB.out; exact w64_q _ (by omega) (by omega)
 have HW4 := am hw4
 clear hfi hw4
 go_upto_if 22 with (go_at_call 53; with_reducible refine (Kf3.out _).mono ?_; rintro e' Wn ⟨rfl, hW⟩; rw [hW]; clear hW Wn)
 go_cut [] (fun wc => Aside0 (Below w.heap.size w wc) ∧ Aside0 (wc.heap[w.heap.size]? = some (.cells #[.int .i64 n, .int .i64 pi, .int .i64 e, .int .i64 g, .int .i64 f, .slice A l.length m] 24 (0, 0))) ∧ Aside0 (wc.heap[w.heap.size + 1]? = some (.cells #[.int .i64 0, .int .i64 0, .int .i64 0, .int .i64 0, .int .i64 0, .slice none 0 0] 24 (0, 0))) ∧ Aside0 (wc.heap[gb]? = some (.cells #[.int .i64 N, .int .i64 0, .int .i64 re, .int .i64 rg, .int .i64 fi, .slice none 0 0] 24 (0, 0))))
 case first =>
  cases hb : (r3 == 0)
  ·have h3 := am (show ¬ r3 = 0 by simpa using hb)
   go_wp2
   go_meet
   case rel => exact ⟨HB, HCB, HOB, ⟨by rw [HFI.out, if_neg h3.out]; exact HG.out⟩⟩
  ·have h3 := am (show r3 = 0 by simpa using hb)
   go_wp2_with (go_at_call 53; with_reducible refine (Kf40.out _).mono ?_; rintro e' Wn ⟨rfl, hW⟩; rw [hW]; clear hW Wn)
   go_meet
   case rel =>
    have kg := (Kp.refl (fun k => k = gb) W3).set_ (p := ⟨gb, 4, none⟩) (.inl rfl) (.int .i64 (65535 - r4))
    exact ⟨⟨HB.out.setCell (p := ⟨gb, 4, none⟩) (show w.heap.size ≤ gb by have := hgs.out; omega) _⟩, ⟨kg.blk HCB.out (fun e => by have := hgs.out; omega)⟩, ⟨kg.blk HOB.out (fun e => by have := hgs.out; omega)⟩, ⟨by rw [HFI.out, if_pos h3.out]; exact blk_put HG.out 4 _ rfl⟩⟩
 case rest =>
  obtain ⟨hb, hc, ho, hg⟩ := hcut
  clear HB HCB HOB HG cc y4 yf4 Kf3 Kf40 HW4
  have HB := hb
  have HCB := hc
  have HOB := ho
  have HG := hg
  clear hb hc ho hg
  have cc := cells6 HCB.out
  have dd := cells6 HG.out
  go_wp2
  have HN := am (below_drew (Below.refl wc.heap.size wc))
  refine startB (n := 13) (F := fun _ => False) (ds := [12]) (by kernel_rfl) rfl (fun hHeld => ?_)
  refine plan_ [.p 0 28, .t 1 29, .p 2 30, .t 3 31, .p 4 32, .p 5 33, .p 6 34, .p 7 35, .t 8 36] ?_
  repeat (first | refine jP ?_ | refine jW hHeld ?_ | refine jG ?_)
  refine planE ?_
  refine jO 9 (some 37) (fun K hK => ?_)
  refine kC Tryz.func53 #[.int .i64 pi, .int .i64 100] ?_
  refine (Kpi.out _).mono ?_
  rintro e' Wn ⟨rfl, hW⟩
  rw [hW]
  clear hW Wn
  refine ⟨_, rfl, ?_⟩
  refine hK.out _ _ (Kp.of HN.out) (fun hHeld => ?_)
  clear hK K
  refine jM 37 ?_
  refine plan_ [.p 10 38, .p 11 39] ?_
  repeat (first | refine jP ?_ | refine jW hHeld ?_ | refine jG ?_)
  refine planE ?_
  refine jL 12 none (fun K hK => ?_)
  have y9 := (blk_cell (blk_below HG.out HN.out) 1).trans rfl
  have yf9 := blk_frozen (blk_below HG.out HN.out) 1
  refine skip_ (w1 := wc.drew.setCell ⟨gb, 1, none⟩ (.int .i64 (wrap64 (wrap64 (4 * wrap64 (wrap64 (re + rg) + 1)) + rp)))) (by rfl) rfl (by go_simp; try rfl) ?_
  refine hK.out _ _ ?_
  clear hK K
  refine done_ (by kernel_rfl) ?_
  have kg := (Kp.refl (fun k => k = gb) wc.drew).set_ (p := ⟨gb, 1, none⟩) (.inl rfl) (.int .i64 (wrap64 (wrap64 (4 * wrap64 (wrap64 (re + rg) + 1)) + rp)))
  have n1 := am (kg.blk (blk_below HCB.out HN.out) (fun e => by have := hgs.out; omega))
  have n2 := am (kg.blk (blk_below HOB.out HN.out) (fun e => by have := hgs.out; omega))
  have n3 := am ((b_tr HB.out HN.out).setCell (p := ⟨gb, 1, none⟩) (show w.heap.size ≤ gb by have := hgs.out; omega) (.int .i64 (wrap64 (wrap64 (4 * wrap64 (wrap64 (re + rg) + 1)) + rp))))
  have n4 := am (blk_put (blk_below HG.out HN.out) 1 (.int .i64 (wrap64 (wrap64 (4 * wrap64 (wrap64 (re + rg) + 1)) + rp))) (cs' := #[.int .i64 N, .int .i64 (wrap64 (wrap64 (4 * wrap64 (wrap64 (re + rg) + 1)) + rp)), .int .i64 re, .int .i64 rg, .int .i64 fi, .slice none 0 0]) rfl)
  clear HCB HOB HB HG HN cc dd kg y9 yf9 Kpi
  have HCB := n1
  have HOB := n2
  have HB := n3
  have HG := n4
  clear n1 n2 n3 n4
  generalize wc.drew.setCell ⟨gb, 1, none⟩ (.int .i64 (wrap64 (wrap64 (4 * wrap64 (wrap64 (re + rg) + 1)) + rp))) = W5 at *
  have hwP : (wrap64 (wrap64 (4 * wrap64 (wrap64 (re + rg) + 1)) + rp)) = 4 * (re + rg + 1) + rp := by
   have := BB.out
   rw [w64_q (re + rg) (by omega) (by omega), w64_q (re + rg + 1) (by omega) (by omega), w64_q (4 * (re + rg + 1)) (by omega) (by omega), w64_q _ (by omega) (by omega)]
  rw [hwP] at HG
  clear hwP
  go_wp2
  go_loopw [4] (fun v w' => ∃ i : Nat, v = .int .i64 i ∧ i ≤ l.length ∧ i ≤ 3 ∧ Aside0 (Below w.heap.size w w') ∧ Aside0 (w'.heap[w.heap.size]? = some (.cells #[.int .i64 n, .int .i64 pi, .int .i64 e, .int .i64 g, .int .i64 f, .slice A l.length m] 24 (0, 0))) ∧ Aside0 (w'.heap[w.heap.size + 1]? = some (.cells #[.int .i64 0, .int .i64 0, .int .i64 0, .int .i64 0, .int .i64 0, .slice none 0 0] 24 (0, 0))) ∧ Aside0 (∃ pv, w'.heap[gb]? = some (.cells #[.int .i64 N, .int .i64 (4 * (re + rg + 1) + rp), .int .i64 re, .int .i64 rg, .int .i64 fi, pv] 24 (0, 0)) ∧ Kd.R (Kd.int .i64) 3 w' w.heap.size (fun _ => True) pv ((l.take i).map fun x => x % (N + 1) - 1))) (fun v _ => l.length - (intOf v).toNat)
  case atStart => exact ⟨0, rfl, Nat.zero_le _, Nat.zero_le _, HB, HCB, HOB, ⟨_, HG.out, Kd.R_nil _ _ _ _ _⟩⟩
  case round =>
   clear HB HCB HOB HG
   obtain ⟨i, rfl, hi, hi3, HB, HCB, HOB, HP⟩ := hrel
   obtain ⟨pv, hG, hP⟩ := HP.out
   have hps : ((l.take i).map fun x => x % (N + 1) - 1).length ≤ 3 := by simp; omega
   obtain ⟨ps, hpse⟩ : ∃ ps, ((l.take i).map fun x => x % (N + 1) - 1) = ps := ⟨_, rfl⟩
   rw [hpse] at hP hps
   obtain ⟨Ap, cp, rfl⟩ := Kd.R_slice hP
   have HG := am hG
   have HPS := am hP
   have hpl := am hps
   have HPE := am hpse
   have HI := am (And.intro hi hi3)
   have hlm := hml.out
   by_cases hlt : i < l.length ∧ i < 3
   ·have hlt9 := am hlt
    have q1 := eq_true (show ((i : Int) < (l.length : Int)) by omega)
    have q2 := eq_true (show ((i : Int) < 3) by omega)
    have q3 := eq_true (show i < l.length from hlt.1)
    obtain ⟨x, hx⟩ : ∃ x, l[i]? = some x := ⟨_, List.getElem?_eq_getElem hlt.1⟩
    have hrd : rd l (i : Int) = x := by unfold rd; rw [Int.toNat_natCast, List.getD_eq_getElem?_getD, hx]; rfl
    have HX := am hx
    have hRw := Kd.C_below hRT.out HB.out
    have hR2 : RdT0 (Kd.int .i64) wr (.slice A l.length m) l := ⟨A, m, rfl, hml.out, hRw⟩
    obtain ⟨ad, hA, hcx⟩ := hR2.int_at i hlt.1
    obtain rfl := hA
    rw [hrd] at hcx
    have KX0 := fun W => wit3 x (N + 1) (by have := BB.out; have := HNN.out; omega) (by have := BB.out; have := HNN.out; omega) W
    obtain ⟨rx, hrx⟩ : ∃ rx, x % (N + 1) = rx := ⟨_, rfl⟩
    have brx : 0 ≤ rx ∧ rx < 14 := by
     have h1 := Int.emod_nonneg x (show N + 1 ≠ 0 by have := BB.out; have := HNN.out; omega)
     have h2 := Int.emod_lt_of_pos x (show 0 < N + 1 by have := BB.out; have := HNN.out; omega)
     have := BB.out; have := HNN.out
     omega
    rw [hrx] at KX0
    have hwN : wrap64 (N + 1) = N + 1 := by have := BB.out; have := HNN.out; exact w64_q _ (by omega) (by omega)
    rw [← hwN] at KX0
    have HWX := am (show wrap64 (rx - 1) = rx - 1 from w64_q _ (by omega) (by omega))
    have KX := am KX0
    clear hwN
    have HRX := am hrx
    have bN : 6 ≤ N ∧ N < 13 := by have := BB.out; have := HNN.out; omega
    have cc := cells6 HCB.out
    have dd := cells6 HG.out
    clear hG hP HP hps hpse hi hi3 hlt hx hrd hRw hR2 KX0 hrx
    go_upto_region 8 with (fail)
    have HN := am (below_drew (Below.refl wr.heap.size wr))
    refine startB (n := 16) (F := fun _ => False) (ds := [13, 15]) (by kernel_rfl) rfl (fun hHeld => ?_)
    refine plan_ [.p 0 51, .t 1 52, .p 2 53, .t 3 54, .p 4 55, .p 5 56, .t 6 57, .p 7 58, .t 8 59, .p 9 60] ?_
    repeat (first | refine jP ?_ | refine jW hHeld ?_ | refine jG ?_)
    refine planE ?_
    refine jO 10 (some 61) (fun K hK => ?_)
    refine kC Tryz.func53 #[.int .i64 x, .int .i64 (wrap64 (N + 1))] ?_
    refine (KX.out _).mono ?_
    rintro e' Wn ⟨rfl, hW⟩
    rw [hW]
    clear hW Wn
    refine ⟨_, rfl, ?_⟩
    refine hK.out _ _ (Kp.of HN.out) (fun hHeld => ?_)
    clear hK K
    refine jM 61 ?_
    refine plan_ [.p 11 62] ?_
    repeat (first | refine jP ?_ | refine jW hHeld ?_ | refine jG ?_)
    refine planE ?_
    refine jO 12 (some 63) (fun K hK => ?_)
    refine value_ (v := .slice (some ⟨wr.drew.heap.size, 0, none⟩) 1 1) (w1 := wr.drew.alloc (.cells #[.int .i64 (wrap64 (rx - 1))] 3)) (by rfl) rfl (by go_simp; try rfl) ?_
    refine hK.out _ _ ((Kp.of HN.out).then_ (b_al _ _)) (fun hHeld => ?_)
    clear hK K
    refine jM 63 ?_
    refine jL 13 (some 64) (fun K hK => ?_)
    refine Kd.R_append_step (Kd.int .i64) (w0 := w) (W := wr.drew) w.heap.size (by rfl) (.tmp 52) (.tmp 63) 22 3 (.int .i64 0) 8 rfl Tryz.underlying22 info_int_ rfl (by decide) (by omega) _ ps (wrap64 (rx - 1)) [.int .i64 (wrap64 (rx - 1))] (fun _ => True) (fun _ => False) rfl rfl rfl (fun _ h => h.elim) (fun _ _ => trivial) (Kd.R_below HPS.out HN.out) (b_tr HB.out HN.out) (by have := HN.out.size; have := HB.out.size; omega) (by have := hpl.out; omega) ?_
    intro v4 W4 hR4 hB4 hg4 _
    have HB4 := am hB4
    have HR4 := am hR4
    have HG4 := am ((hg4.block _ (blk_lt (blk_below HG.out HN.out)) (fun e => by obtain ⟨cells, hc⟩ := Kd.R_typed (Kd.R_below HPS.out HN.out) _ e.symm; exact ne_of_types hc (blk_below HG.out HN.out) (by decide) rfl)).trans (blk_below HG.out HN.out))
    have HC4 := am ((hg4.block _ (blk_lt (blk_below HCB.out HN.out)) (fun e => by obtain ⟨cells, hc⟩ := Kd.R_typed (Kd.R_below HPS.out HN.out) _ e.symm; exact ne_of_types hc (blk_below HCB.out HN.out) (by decide) rfl)).trans (blk_below HCB.out HN.out))
    have HO4 := am ((hg4.block _ (blk_lt (blk_below HOB.out HN.out)) (fun e => by obtain ⟨cells, hc⟩ := Kd.R_typed (Kd.R_below HPS.out HN.out) _ e.symm; exact ne_of_types hc (blk_below HOB.out HN.out) (by decide) rfl)).trans (blk_below HOB.out HN.out))
    clear hR4 hg4 hB4
    obtain ⟨A4, c4, rfl⟩ := Kd.R_slice HR4.out
    refine hK.out _ _ ?_
    clear hK K
    refine jM 64 ?_
    refine plan_ [.p 14 65] ?_
    repeat (first | refine jP ?_ | refine jW hHeld ?_ | refine jG ?_)
    refine planE ?_
    refine jL 15 none (fun K hK => ?_)
    have y9 := (blk_cell HG4.out 5).trans rfl
    have yf9 := blk_frozen HG4.out 5
    refine skip_ (w1 := W4.setCell ⟨gb, 5, none⟩ (.slice A4 (ps ++ [wrap64 (rx - 1)]).length c4)) (by rfl) rfl (by go_simp; try rfl) ?_
    refine hK.out _ _ ?_
    clear hK K
    refine done_ (by kernel_rfl) ?_
    have kg := (Kp.refl (fun k => k = gb) W4).set_ (p := ⟨gb, 5, none⟩) (.inl rfl) (.slice A4 (ps ++ [wrap64 (rx - 1)]).length c4)
    have n1 := am (kg.blk HC4.out (fun e => by have := hgs.out; omega))
    have n2 := am (kg.blk HO4.out (fun e => by have := hgs.out; omega))
    have n3 := am (HB4.out.setCell (p := ⟨gb, 5, none⟩) (show w.heap.size ≤ gb by have := hgs.out; omega) (.slice A4 (ps ++ [wrap64 (rx - 1)]).length c4))
    have n4 := am (blk_put HG4.out 5 (.slice A4 (ps ++ [wrap64 (rx - 1)]).length c4) (cs' := #[.int .i64 N, .int .i64 (4 * (re + rg + 1) + rp), .int .i64 re, .int .i64 rg, .int .i64 fi, .slice A4 (ps ++ [wrap64 (rx - 1)]).length c4]) rfl)
    have n5 := am (err_keep HR4.out (W' := W4.setCell ⟨gb, 5, none⟩ (.slice A4 (ps ++ [wrap64 (rx - 1)]).length c4)) (fun g hg => by
     obtain ⟨cells, hc⟩ := Kd.R_typed HR4.out g hg
     exact kg.block g (blk_lt hc) (fun e => ne_of_types hc HG4.out (by decide) e)))
    have HST := am (show ((l.take (i + 1)).map fun x => x % (N + 1) - 1) = ps ++ [rx - 1] by
     have h1 := HX.out
     rw [List.take_add_one, h1, List.map_append, HPE.out]
     simp only [Option.toList_some, List.map_cons, List.map_nil, HRX.out])
    clear HB HCB HOB HG HPS HN cc dd HB4 HR4 HG4 HC4 HO4 kg y9 yf9 hHeld
    rw [HWX.out] at *
    generalize W4.setCell ⟨gb, 5, none⟩ (.slice A4 (ps ++ [rx - 1]).length c4) = W6 at *
    have hi9 : i ≤ 3 := HI.out.2
    go_wp2
    go_roundw
    case rel => exact ⟨i + 1, by simp, by have := hlt9.out; omega, by have := hlt9.out; omega, n3, n1, n2, ⟨_, n4.out, by rw [HST.out]; exact n5.out⟩⟩
    case measure => have := hlt9.out; simp [intOf]; omega
   ·have htk : l.take i = l.take 3 := by
     by_cases h3 : i = 3
     ·rw [h3]
     ·rw [List.take_of_length_le (by omega), List.take_of_length_le (by omega)]
    have hC : C = ⟨N, 4 * (re + rg + 1) + rp, re, rg, fi, ps⟩ := by
     rw [HM.out, ← HNN.out, ← HFI.out, ← HPE.out, htk]
    have HCE := am hC
    have cc := cells6 HCB.out
    have dd := cells6 HG.out
    have hq : (i : Int) < (l.length : Int) ∧ ¬ ((i : Int) < 3) ∨ ¬ ((i : Int) < (l.length : Int)) := by omega
    have hends : Aside0 (∀ W7, W7.heap[w.heap.size + 1]? = some (.cells #[.int .i64 N, .int .i64 (4 * (re + rg + 1) + rp), .int .i64 re, .int .i64 rg, .int .i64 fi, .slice Ap ps.length cp] 24 (0, 0)) → Kp (fun k => k = w.heap.size + 1) wr W7 → ∃ (A' : Option Addr) (m' : Nat), Ending.returned (.agg #[.int .i64 N, .int .i64 (4 * (re + rg + 1) + rp), .int .i64 re, .int .i64 rg, .int .i64 fi, .slice Ap ps.length cp]) = .returned (C.v A' m') ∧ RdT (Kd.int .i64) 3 W7 (.slice A' C.pairs.length m') C.pairs ∧ Below w.heap.size w W7) := ⟨fun W7 h7 k7 => by
     rw [HCE.out]
     exact ⟨Ap, cp, rfl, (RdT.of_R HPS.out).kp plain_int k7 (fun k cells e hc => by subst e; exact ne_of_types HOB.out hc (by decide) rfl), below_kp HB.out k7 (by omega) HB.out.size⟩⟩
    clear hG hP HP hps hpse hi hi3 hlt htk hC
    rcases hq with ⟨h1, h2⟩ | h1
    ·have q1 := eq_true h1
     have q2 := eq_false h2
     have q3 := eq_true (show i < l.length by omega)
     have q4 := eq_false (show ¬ i < 3 by omega)
     clear h1 h2
     go_wp2_with ((with_reducible refine gate_ (.store 24 (.tmp 2) (.tmp 66)) rfl ?_); refine store_part rfl 24 (.tmp 2) (.tmp 66) rfl ((w.heap.size + 1)) 0 24 #[.int .i64 N, .int .i64 (4 * (re + rg + 1) + rp), .int .i64 re, .int .i64 rg, .int .i64 fi, .slice Ap ps.length cp] [.int .i64 0, .int .i64 0, .int .i64 0, .int .i64 0, .int .i64 0, .slice none 0 0] rfl rfl HOB.out (by simp) info_conf (by simp [Value.oneCell']) ?_; intro W7 HG7_ KG7_; have HG7 := am HG7_; have KG7 := am KG7_; clear HG7_ KG7_)
     exact bodyPost_ret (v := .agg #[.int .i64 N, .int .i64 (4 * (re + rg + 1) + rp), .int .i64 re, .int .i64 rg, .int .i64 fi, .slice Ap ps.length cp]) (results_cell_row Tryz.results33 _ W7 _ _ _ _ _ rfl HG7.out hu rfl info_conf) rfl (hends.out W7 HG7.out KG7.out)
    ·have q1 := eq_false h1
     have q3 := eq_false (show ¬ i < l.length by omega)
     clear h1
     go_wp2_with ((with_reducible refine gate_ (.store 24 (.tmp 2) (.tmp 66)) rfl ?_); refine store_part rfl 24 (.tmp 2) (.tmp 66) rfl ((w.heap.size + 1)) 0 24 #[.int .i64 N, .int .i64 (4 * (re + rg + 1) + rp), .int .i64 re, .int .i64 rg, .int .i64 fi, .slice Ap ps.length cp] [.int .i64 0, .int .i64 0, .int .i64 0, .int .i64 0, .int .i64 0, .slice none 0 0] rfl rfl HOB.out (by simp) info_conf (by simp [Value.oneCell']) ?_; intro W7 HG7_ KG7_; have HG7 := am HG7_; have KG7 := am KG7_; clear HG7_ KG7_)
     exact bodyPost_ret (v := .agg #[.int .i64 N, .int .i64 (4 * (re + rg + 1) + rp), .int .i64 re, .int .i64 rg, .int .i64 fi, .slice Ap ps.length cp]) (results_cell_row Tryz.results33 _ W7 _ _ _ _ _ rfl HG7.out hu rfl info_conf) rfl (hends.out W7 HG7.out KG7.out)
def confL (n pi e g f : Int) (l : List Int) : Cf := { mkC (n % 2) pi e g f l with pairs := (mkC (n % 2) pi e g f l).pairs.take 2 }
theorem confL_ok (n pi e g f : Int) (l : List Int) : (confL n pi e g f l).OK := by
 have h := mkC_ok (n % 2) pi e g f l
 refine ⟨h.n6, h.n12, h.e0, h.e1, h.g0, h.g1, h.f0, h.f1, h.p0, h.p1, ?_, fun x hx => h.pr x (List.mem_of_mem_take hx)⟩
 show ((mkC (n % 2) pi e g f l).pairs.take 2).length ≤ 3
 rw [List.length_take]; omega
theorem confL_n (n pi e g f : Int) (l : List Int) : (confL n pi e g f l).n = 6 + n % 2 := by
 show 6 + n % 2 % 7 = _
 omega
theorem law17_Conf (n pi e g f : Int) (l : List Int) (A : Option Addr) (m : Nat) (w : World) (hr : Kd.C (Kd.int .i64) w A l.length l) (hm : l.length ≤ m) :
  Calls Tryz.prog 15 #[.agg #[.int .i64 n, .int .i64 pi, .int .i64 e, .int .i64 g, .int .i64 f, .slice A l.length m]] w fun e' w' => ∃ (A' : Option Addr) (m' : Nat), e' = .returned ((confL n pi e g f l).v A' m') ∧ RdT (Kd.int .i64) 3 w' (.slice A' (confL n pi e g f l).pairs.length m') (confL n pi e g f l).pairs ∧ Below w.heap.size w w' := by
 have K0 := am (fun W => wit17 n 2 (by omega) (by omega) W)
 have KM := am (fun W hb => law3_Make (n % 2) pi e g f l A m W (Kd.C_below hr hb) hm)
 have hCF : confL n pi e g f l = { mkC (n % 2) pi e g f l with pairs := (mkC (n % 2) pi e g f l).pairs.take 2 } := rfl
 rw [hCF]
 generalize n % 2 = r0 at *
 generalize mkC r0 pi e g f l = C at *
 obtain ⟨cn, cp, ce, cg, cf, ps⟩ := C
 simp only at KM ⊢
 clear hCF hr hm
 have hu := Tryz.underlying24
 go_enter Tryz.func15, Tryz.ntmps15
 go_upto_region 1 with (fail)
 have HB := am (b_tr (b_al w (.cells #[.int .i64 n, .int .i64 pi, .int .i64 e, .int .i64 g, .int .i64 f, .slice A l.length m] 24)) (b_al _ (.cells #[.int .i64 0, .int .i64 0, .int .i64 0, .int .i64 0, .int .i64 0, .slice none 0 0] 24)))
 have HCB := am (blk_alloc (blk_new w (.cells #[.int .i64 n, .int .i64 pi, .int .i64 e, .int .i64 g, .int .i64 f, .slice A l.length m] 24)) (.cells #[.int .i64 0, .int .i64 0, .int .i64 0, .int .i64 0, .int .i64 0, .slice none 0 0] 24))
 have HOB := am (blk_new (w.alloc (.cells #[.int .i64 n, .int .i64 pi, .int .i64 e, .int .i64 g, .int .i64 f, .slice A l.length m] 24)) (.cells #[.int .i64 0, .int .i64 0, .int .i64 0, .int .i64 0, .int .i64 0, .slice none 0 0] 24))
 rw [show (w.alloc (.cells #[.int .i64 n, .int .i64 pi, .int .i64 e, .int .i64 g, .int .i64 f, .slice A l.length m] 24)).heap.size = w.heap.size + 1 by simp] at HOB
 generalize (w.alloc (.cells #[.int .i64 n, .int .i64 pi, .int .i64 e, .int .i64 g, .int .i64 f, .slice A l.length m] 24)).alloc (.cells #[.int .i64 0, .int .i64 0, .int .i64 0, .int .i64 0, .int .i64 0, .slice none 0 0] 24) = W1 at *
 have y0 := (blk_cell HCB.out 0).trans rfl
 have yf0 := blk_frozen HCB.out 0
 go_upto_region 2 with (go_at_call 16; with_reducible refine (K0.out _).mono ?_; rintro e' Wn ⟨rfl, hW⟩; rw [hW]; clear hW Wn)
 have kg := (Kp.refl (fun k => k = w.heap.size) W1).set_ (p := ⟨w.heap.size, 0, none⟩) (.inl rfl) (.int .i64 r0)
 have n1 := am (blk_put HCB.out 0 (.int .i64 r0) (cs' := #[.int .i64 r0, .int .i64 pi, .int .i64 e, .int .i64 g, .int .i64 f, .slice A l.length m]) rfl)
 have n2 := am (kg.blk HOB.out (fun e => by omega))
 have n3 := am (HB.out.setCell (p := ⟨w.heap.size, 0, none⟩) (Nat.le_refl _) (.int .i64 r0))
 clear HCB HOB HB y0 yf0 kg
 have HCB := n1
 have HOB := n2
 have HB := n3
 clear n1 n2 n3
 generalize W1.setCell ⟨w.heap.size, 0, none⟩ (.int .i64 r0) = W2 at *
 have cc := cells6 HCB.out
 go_upto_region 3 with (first
  | (go_at_call 33; refine (KM.out _ HB.out).mono ?_; rintro e' W3 ⟨A', m', rfl, hR, hb⟩; have HR := am hR; have n2 := am (blk_below HOB.out hb); have n3 := am (b_tr HB.out hb); clear HOB HB hR hb cc HCB; have HOB := n2; have HB := n3; clear n2 n3)
  | (((with_reducible refine gate_ (.store 24 (.tmp 3) (.tmp 9)) rfl ?_); refine store_part rfl 24 (.tmp 3) (.tmp 9) rfl (W3.heap.size) 0 24 #[.int .i64 cn, .int .i64 cp, .int .i64 ce, .int .i64 cg, .int .i64 cf, .slice A' ps.length m'] [.int .i64 0, .int .i64 0, .int .i64 0, .int .i64 0, .int .i64 0, .slice none 0 0] rfl rfl (blk_new W3 _) (by simp) info_conf (by simp [Value.oneCell']) ?_; intro W4 HG4_ KG4_; have HG4 := am HG4_; have KG4 := am KG4_; clear HG4_ KG4_)))
 have HG := am (show W4.heap[W3.heap.size]? = some (.cells #[.int .i64 cn, .int .i64 cp, .int .i64 ce, .int .i64 cg, .int .i64 cf, .slice A' ps.length m'] 24 (0, 0)) from HG4.out)
 have hgs := am (show w.heap.size + 2 ≤ W3.heap.size from by have := blk_lt HOB.out; omega)
 have b3 := b_al W3 (.cells #[.int .i64 0, .int .i64 0, .int .i64 0, .int .i64 0, .int .i64 0, .slice none 0 0] 24)
 have n2 := am (KG4.out.blk (blk_below HOB.out b3) (fun e => by have := hgs.out; omega))
 have n3 := am (below_kp (b_tr HB.out b3) KG4.out HB.out.size (b_tr HB.out b3).size)
 have n4 := am ((HR.out.below b3).kp plain_int KG4.out (fun k cells e hc => by subst e; exact ne_of_types (blk_new W3 (.cells #[.int .i64 0, .int .i64 0, .int .i64 0, .int .i64 0, .int .i64 0, .slice none 0 0] 24)) hc (by decide) rfl))
 clear HOB HB HR HG4 KG4 b3
 generalize W3.heap.size = gb at *
 have hpm := am (show ps.length ≤ m' from by obtain ⟨A9, m9, e1, e2, -⟩ := n4.out; injection e1 with _ _ e3; omega)
 have yy := (blk_cell HG.out 5).trans rfl
 have yf := blk_frozen HG.out 5
 by_cases h2 : (2 : Int) < (ps.length : Int)
 ·have q1 := eq_true h2
  have hct := cut_to (P := Tryz.prog) 22 3 .i64 Tryz.underlying22 (Option.eq_some_of_isSome (by kernel_rfl)) A' ps.length m' 2 (by omega) (by omega) hpm.out
  have hends : Aside0 (∀ W7, W7.heap[w.heap.size + 1]? = some (.cells #[.int .i64 cn, .int .i64 cp, .int .i64 ce, .int .i64 cg, .int .i64 cf, .slice A' 2 m'] 24 (0, 0)) → Kp (fun k => k = w.heap.size + 1) (W4.setCell ⟨gb, 5, none⟩ (.slice A' 2 m')) W7 → ∃ (B : Option Addr) (q : Nat), Ending.returned (.agg #[.int .i64 cn, .int .i64 cp, .int .i64 ce, .int .i64 cg, .int .i64 cf, .slice A' 2 m']) = .returned (.agg #[.int .i64 cn, .int .i64 cp, .int .i64 ce, .int .i64 cg, .int .i64 cf, .slice B (ps.take 2).length q]) ∧ RdT (Kd.int .i64) 3 W7 (.slice B (ps.take 2).length q) (ps.take 2) ∧ Below w.heap.size w W7) := ⟨fun W7 h7 k7 => by
   have kg := (Kp.refl (fun k => k = gb) W4).set_ (p := ⟨gb, 5, none⟩) (.inl rfl) (.slice A' 2 m')
   have hl : (ps.take 2).length = 2 := by rw [List.length_take]; omega
   have ht : ps.take 2 = ps.take 2 := by rfl
   rw [hl, ht]
   refine ⟨A', m', rfl, ?_, below_kp (n3.out.setCell (p := ⟨gb, 5, none⟩) (show w.heap.size ≤ gb by have := hgs.out; omega) _) k7 (by omega) (n3.out.setCell (p := ⟨gb, 5, none⟩) (show w.heap.size ≤ gb by have := hgs.out; omega) _).size⟩
   exact (((n4.out.take 2 (by omega)).kp plain_int kg (fun k cells e hc => by subst e; exact ne_of_types HG.out hc (by decide) rfl)).kp plain_int k7 (fun k cells e hc => by subst e; exact ne_of_types (kg.blk n2.out (fun e => by have := hgs.out; omega)) hc (by decide) rfl))⟩
  go_upto_region 4 with (fail)
  have HG5 := am (blk_put HG.out 5 (.slice A' 2 m') (cs' := #[.int .i64 cn, .int .i64 cp, .int .i64 ce, .int .i64 cg, .int .i64 cf, .slice A' 2 m']) rfl)
  have HO5 := am (((Kp.refl (fun k => k = gb) W4).set_ (p := ⟨gb, 5, none⟩) (.inl rfl) (.slice A' 2 m')).blk n2.out (fun e => by have := hgs.out; omega))
  clear yy yf hct
  generalize W4.setCell ⟨gb, 5, none⟩ (.slice A' 2 m') = W5 at *
  have dd := cells6 HG5.out
  go_wp2_with ((with_reducible refine gate_ (.store 24 (.tmp 2) (.tmp 18)) rfl ?_); refine store_part rfl 24 (.tmp 2) (.tmp 18) rfl ((w.heap.size + 1)) 0 24 #[.int .i64 cn, .int .i64 cp, .int .i64 ce, .int .i64 cg, .int .i64 cf, .slice A' 2 m'] [.int .i64 0, .int .i64 0, .int .i64 0, .int .i64 0, .int .i64 0, .slice none 0 0] rfl rfl HO5.out (by simp) info_conf (by simp [Value.oneCell']) ?_; intro W7 HG7_ KG7_; have HG7 := am HG7_; have KG7 := am KG7_; clear HG7_ KG7_)
  exact bodyPost_ret (v := .agg #[.int .i64 cn, .int .i64 cp, .int .i64 ce, .int .i64 cg, .int .i64 cf, .slice A' 2 m']) (results_cell_row Tryz.results15 _ W7 _ _ _ _ _ rfl HG7.out hu rfl info_conf) rfl (by
   obtain ⟨B, q, e1, e2, e3⟩ := hends.out W7 HG7.out KG7.out
   exact ⟨B, q, e1, by rw [List.length_take] at e2; exact e2, e3⟩)
 ·have q1 := eq_false h2
  have hct := cut_to (P := Tryz.prog) 22 3 .i64 Tryz.underlying22 (Option.eq_some_of_isSome (by kernel_rfl)) A' ps.length m' ps.length (by omega) (by omega) hpm.out
  have hends : Aside0 (∀ W7, W7.heap[w.heap.size + 1]? = some (.cells #[.int .i64 cn, .int .i64 cp, .int .i64 ce, .int .i64 cg, .int .i64 cf, .slice A' ps.length m'] 24 (0, 0)) → Kp (fun k => k = w.heap.size + 1) (W4.setCell ⟨gb, 5, none⟩ (.slice A' ps.length m')) W7 → ∃ (B : Option Addr) (q : Nat), Ending.returned (.agg #[.int .i64 cn, .int .i64 cp, .int .i64 ce, .int .i64 cg, .int .i64 cf, .slice A' ps.length m']) = .returned (.agg #[.int .i64 cn, .int .i64 cp, .int .i64 ce, .int .i64 cg, .int .i64 cf, .slice B (ps.take 2).length q]) ∧ RdT (Kd.int .i64) 3 W7 (.slice B (ps.take 2).length q) (ps.take 2) ∧ Below w.heap.size w W7) := ⟨fun W7 h7 k7 => by
   have kg := (Kp.refl (fun k => k = gb) W4).set_ (p := ⟨gb, 5, none⟩) (.inl rfl) (.slice A' ps.length m')
   have hl : (ps.take 2).length = ps.length := by rw [List.length_take]; omega
   have ht : ps.take 2 = ps.take ps.length := by rw [List.take_of_length_le (by omega), List.take_of_length_le (Nat.le_refl _)]
   rw [hl, ht]
   refine ⟨A', m', rfl, ?_, below_kp (n3.out.setCell (p := ⟨gb, 5, none⟩) (show w.heap.size ≤ gb by have := hgs.out; omega) _) k7 (by omega) (n3.out.setCell (p := ⟨gb, 5, none⟩) (show w.heap.size ≤ gb by have := hgs.out; omega) _).size⟩
   exact (((n4.out.take ps.length (by omega)).kp plain_int kg (fun k cells e hc => by subst e; exact ne_of_types HG.out hc (by decide) rfl)).kp plain_int k7 (fun k cells e hc => by subst e; exact ne_of_types (kg.blk n2.out (fun e => by have := hgs.out; omega)) hc (by decide) rfl))⟩
  go_upto_region 4 with (fail)
  have HG5 := am (blk_put HG.out 5 (.slice A' ps.length m') (cs' := #[.int .i64 cn, .int .i64 cp, .int .i64 ce, .int .i64 cg, .int .i64 cf, .slice A' ps.length m']) rfl)
  have HO5 := am (((Kp.refl (fun k => k = gb) W4).set_ (p := ⟨gb, 5, none⟩) (.inl rfl) (.slice A' ps.length m')).blk n2.out (fun e => by have := hgs.out; omega))
  clear yy yf hct
  generalize W4.setCell ⟨gb, 5, none⟩ (.slice A' ps.length m') = W5 at *
  have dd := cells6 HG5.out
  go_wp2_with ((with_reducible refine gate_ (.store 24 (.tmp 2) (.tmp 18)) rfl ?_); refine store_part rfl 24 (.tmp 2) (.tmp 18) rfl ((w.heap.size + 1)) 0 24 #[.int .i64 cn, .int .i64 cp, .int .i64 ce, .int .i64 cg, .int .i64 cf, .slice A' ps.length m'] [.int .i64 0, .int .i64 0, .int .i64 0, .int .i64 0, .int .i64 0, .slice none 0 0] rfl rfl HO5.out (by simp) info_conf (by simp [Value.oneCell']) ?_; intro W7 HG7_ KG7_; have HG7 := am HG7_; have KG7 := am KG7_; clear HG7_ KG7_)
  exact bodyPost_ret (v := .agg #[.int .i64 cn, .int .i64 cp, .int .i64 ce, .int .i64 cg, .int .i64 cf, .slice A' ps.length m']) (results_cell_row Tryz.results15 _ W7 _ _ _ _ _ rfl HG7.out hu rfl info_conf) rfl (by
   obtain ⟨B, q, e1, e2, e3⟩ := hends.out W7 HG7.out KG7.out
   exact ⟨B, q, e1, by rw [List.length_take] at e2; exact e2, e3⟩)
end Go.Proofs.YtgcgglmmfgmaoaaGreat.PK
end
section
namespace Go.Proofs.YtgcgglmmfgmaoaaGreat.PK
open Go Go.RowKit Go.Proofs.YtgcgglmmfgmaoaaGreatW.PrintWords Go.Proofs.YtgcgglmmfgmaoaaGreatW.PrintLast Go.Proofs.YtgcgglmmfgmaoaaGreatW.PrintMore
attribute [local go_sem] max2_int min2_int max_two min_two
def Qg (a b : List Nz) : Prop := a.length = b.length ∧ ∀ i, (gz a i).1 = { (gz b i).1 with qs := (gz a i).1.qs }
theorem Qg.refl (a : List Nz) : Qg a a := ⟨rfl, fun _ => rfl⟩
theorem Qg.trans {a b c : List Nz} (h : Qg a b) (k : Qg b c) : Qg a c := ⟨h.1.trans k.1, fun i => by rw [h.2 i, k.2 i]⟩
theorem Qg.set (a : List Nz) (i : Nat) (q : List Qr) (y : NdA) : Qg (a.set i ({ (gz a i).1 with qs := q }, y)) a := by
 refine ⟨by simp, fun j => ?_⟩
 by_cases hi : i < a.length
 ·by_cases hij : i = j
  ·subst hij
   rw [gz_set _ hi]
  ·rw [gz_set_ne a _ hij]
 ·rw [gz_set_out a _ hi]
theorem frameZ_qg (p : NtP) (round : Int) (nz : List Nz) (i : Nat) (s : Int) : Qg (frameZ p round nz i s).2 nz := by
 unfold frameZ
 split
 ·exact Qg.refl _
 ·split
  ·exact Qg.set _ _ _ _
  ·exact Qg.refl _
theorem sendL_qg (p : NtP) (round s : Int) : ∀ (l : List Int) (nz : List Nz) (a b : List (List UInt8)), Qg (sendL p round s l nz a b).1 nz
 | [], nz, a, b => Qg.refl _
 | i :: r, nz, a, b => (sendL_qg p round s r _ _ _).trans (frameZ_qg p round nz i.toNat s)
theorem runZ_qg (p : NtP) (round : Int) (nz : List Nz) (s : Int) : Qg (runZ p round nz s).1 nz := by
 rw [runZ_nz]
 exact sendL_qg p round s _ _ _ _
theorem slotsN_qg (p : NtP) (round : Int) : ∀ (k : Nat) (nz : List Nz), Qg (slotsN p round k nz).1 nz
 | 0, nz => Qg.refl _
 | k + 1, nz => (runZ_qg p round _ k).trans (slotsN_qg p round k nz)
theorem slotsN_at (p : NtP) (round : Int) (nz : List Nz) (s : Nat) : ∀ n, s < n → (slotsN p round n nz).2[s]? = some (runZ p round (slotsN p round s nz).1 s).2
 | 0, h => by omega
 | n + 1, h => by
  show ((slotsN p round n nz).2 ++ [_])[s]? = _
  by_cases hs : s < n
  ·rw [List.getElem?_append_left (by rw [slotsN_len]; exact hs)]
   exact slotsN_at p round nz s n hs
  ·obtain rfl : s = n := by omega
   rw [List.getElem?_append_right (by rw [slotsN_len]; exact Nat.le_refl _), slotsN_len, Nat.sub_self]
   rfl
theorem runZ_own (p : NtP) (round : Int) (nz : List Nz) (s : Int) (k : Nat) (h : (k : Int) ∈ p.c.owners s) : (runZ p round nz s).2.took.getD k none = none := by
 unfold runZ
 simp only
 split
 ·simp only [List.getD_eq_getElem?_getD, List.getElem?_replicate]
  split <;> rfl
 ·simp only [List.getD_eq_getElem?_getD, List.getElem?_map]
  cases hk : (List.range p.N)[k]? with
  | none => rfl
  | some x =>
   obtain ⟨_, e⟩ := List.getElem?_eq_some_iff.1 hk
   rw [List.getElem_range] at e
   subst e
   simp only [Option.map_some, Option.getD_some]
   unfold tookZ
   rw [if_pos (.inr h)]
theorem alone_heard {p : NtP} (ok : p.OK) (hk : p.s.f.kind = 0) (round : Int) (nz : List Nz) (k : Nat) (h : ∀ j, j ≠ k → (gz nz j).1.st = 0) (n m : Nat) : heardZ p round (slotsN p round m nz).1 (slotsN p round m nz).2 k n = [] := by
 refine heardZ_nil (fun s => ?_) n
 unfold tookAt
 by_cases hs : s < m
 ·rw [List.getD_eq_getElem?_getD (l := (slotsN p round m nz).2), slotsN_at p round nz s m hs]
  simp only [Option.getD_some]
  by_cases ho : (k : Int) ∈ p.c.owners s
  ·exact runZ_own p round _ s k ho
  ·have hq := slotsN_qg p round s nz
   rw [(runZ_mute hk round s _ (fun i hi => ?_)).2]
   ·rw [List.getD_eq_getElem?_getD, List.getElem?_replicate]
    split <;> rfl
   ·refine mute_listen _ (.inl ?_)
    rw [hq.2 i.toNat]
    refine h _ (fun e => ho ?_)
    have h0 : 0 ≤ i := (owners_range ok.hc s i hi).1
    rw [← e, Int.toNat_of_nonneg h0]
    exact hi
 ·rw [List.getD_eq_getElem?_getD (l := (slotsN p round m nz).2), List.getElem?_eq_none (by rw [slotsN_len]; omega)]
  rfl
theorem stepI_nil (st nd : Int) : stepI st nd [] = 0 := by
 unfold stepI sync_Step.f
 rw [if_neg (by simp)]
 split
 ·rfl
 ·split
  ·rfl
  ·split
   ·rfl
   ·split
    ·rfl
    ·rfl
def wantZ (dl : List Int) (g pw : Int) (k : Nat) : Nat → Int
 | 0 => 0
 | r + 1 => wantZ dl g pw k r + (if pw ≤ r then pickI dl (11 * r + k) g else 0)
theorem pickI_le (dl : List Int) (k g : Int) (h : 0 ≤ g) : -g ≤ pickI dl k g ∧ pickI dl k g ≤ g := by
 unfold pickI
 split
 ·omega
 ·omega
theorem wantZ_le (dl : List Int) (g pw : Int) (k : Nat) (h : 0 ≤ g) : ∀ r : Nat, -(g * r) ≤ wantZ dl g pw k r ∧ wantZ dl g pw k r ≤ g * r
 | 0 => by simp [wantZ]
 | r + 1 => by
  have ih := wantZ_le dl g pw k h r
  have hp := pickI_le dl (11 * r + k) g h
  have e : g * ((r + 1 : Nat) : Int) = g * r + g := by rw [Int.natCast_add, Int.mul_add]; simp
  rw [wantZ, e]
  split <;> omega
structure DrI (p : NtP) (k : Nat) (pw : Int) (r : Nat) (nz : List Nz) : Prop where
 l : nz.length = p.N
 o : ∀ j, j ≠ k → (gz nz j).1.st = 0 ∧ (gz nz j).1.ck = 0
 c : (gz nz k).1.ck = wantZ p.s.drifts p.c.g pw k r
 s : ((r : Int) ≤ pw ∧ (gz nz k).1.st = 0) ∨ (pw < r ∧ 1 ≤ (gz nz k).1.st ∧ (gz nz k).1.st ≤ 4)
theorem nextSt_in {c : Cf} (hc : c.OK) (node st t : Int) (h : 1 ≤ st ∧ st ≤ 4) : 1 ≤ (nextSt c node st t 0).1 ∧ (nextSt c node st t 0).1 ≤ 4 := by
 unfold nextSt
 (repeat' split) <;> simp only <;> omega
theorem DrI.step {p : NtP} (ok : p.OK) {k : Nat} {pw : Int} (hkN : k < p.N) (hk : p.s.f.kind = 0) (hcl : p.s.calls = []) (hon : ∀ j, j < p.N → rd p.s.on j = if j = k then pw else -1) {r : Nat} (hr : r ≤ 100) {nz nz' : List Nz} (h : DrI p k pw r nz)
  (hm : nz'.map (fun z => z.1) = stepN p r nz) : DrI p k pw (r + 1) nz' := by
 have hl : nz'.length = p.N := by have := congrArg List.length hm; simpa [stepN] using this
 have hg := ok.hc.g0
 have hg1 := ok.hc.g1
 have e1 : (hostsZ p r nz).1 = powN p r p.N nz := by
  unfold hostsZ
  rw [hcl, powR_none (by rw [hk]; decide)]
  rfl
 have hpo : ∀ j, j ≠ k → (gz (hostsZ p r nz).1 j).1.st = 0 ∧ (gz (hostsZ p r nz).1 j).1.ck = 0 := fun j hj => by
  by_cases hjN : j < p.N
  ·rw [e1, powN_gz p r nz j (by rw [h.l]; exact hjN), if_pos hjN]
   show ((gz nz j).1.pow p r j).st = 0 ∧ ((gz nz j).1.pow p r j).ck = 0
   have h2 := h.o j hj
   unfold Nd.pow
   rw [hon j hjN, if_neg hj, if_neg (show ¬ (-1 : Int) = r by omega)]
   simp only
   rw [if_pos h2.1]
   exact h2
  ·rw [gz_out (by rw [(hostsZ_sg p r nz).1, h.l]; exact hjN)]
   exact ⟨rfl, rfl⟩
 have hw := wantZ_le p.s.drifts p.c.g pw k hg r
 have hpk := pickI_le p.s.drifts (11 * r + k) p.c.g hg
 have hgr : p.c.g * (r : Int) ≤ 100 * 100 := by
  have a1 : p.c.g * (r : Int) ≤ 100 * (r : Int) := Int.mul_le_mul_of_nonneg_right hg1 (by omega)
  omega
 have hpkk : (gz (hostsZ p r nz).1 k).1.ck = wantZ p.s.drifts p.c.g pw k (r + 1) ∧ ((((r + 1 : Nat) : Int) ≤ pw ∧ (gz (hostsZ p r nz).1 k).1.st = 0) ∨ (pw < ((r + 1 : Nat) : Int) ∧ 1 ≤ (gz (hostsZ p r nz).1 k).1.st ∧ (gz (hostsZ p r nz).1 k).1.st ≤ 4)) := by
  rw [e1, powN_gz p r nz k (by rw [h.l]; exact hkN), if_pos hkN, wantZ]
  show ((gz nz k).1.pow p r k).ck = _ ∧ ((_ ∧ ((gz nz k).1.pow p r k).st = 0) ∨ (_ ∧ 1 ≤ ((gz nz k).1.pow p r k).st ∧ ((gz nz k).1.pow p r k).st ≤ 4))
  have hc := h.c
  have hs := h.s
  have hww : wrap64 ((gz nz k).1.ck + pickI p.s.drifts (11 * r + k) p.c.g) = wantZ p.s.drifts p.c.g pw k r + pickI p.s.drifts (11 * r + k) p.c.g := by
   rw [hc]
   exact w64_q _ (by omega) (by omega)
  unfold Nd.pow
  rw [hon k hkN, if_pos rfl]
  by_cases hp : pw = r
  ·rw [if_pos hp]
   simp only
   rw [if_neg (by decide), if_pos (by omega)]
   exact ⟨hww, .inr ⟨by omega, show (1 : Int) ≤ 1 by decide, show (1 : Int) ≤ 4 by decide⟩⟩
  ·rw [if_neg hp]
   simp only
   rcases hs with ⟨h1, h2⟩ | ⟨h1, h2⟩
   ·rw [if_pos h2, if_neg (by omega), Int.add_zero]
    exact ⟨hc, .inl ⟨by omega, h2⟩⟩
   ·rw [if_neg (by omega), if_pos (by omega)]
    exact ⟨hww, .inr ⟨by omega, h2⟩⟩
 have hq := slotsN_qg p r p.Q (hostsZ p r nz).1
 have hh : heardZ p r (slotsZ p r nz).1 (slotsZ p r nz).2 k p.N = [] := alone_heard ok hk r (hostsZ p r nz).1 k (fun j hj => (hpo j hj).1) p.N p.Q
 have hnew : ∀ j, j < p.N → (gz nz' j).1 = endZ p r (slotsZ p r nz).1 (slotsZ p r nz).2 j := fun j hj => gz_fst hm (by unfold stepN; rw [List.getElem?_map, List.getElem?_range hj]; rfl)
 refine ⟨hl, fun j hj => ?_, ?_, ?_⟩
 ·by_cases hjN : j < p.N
  ·have h2 := hpo j hj
   have h3 : (gz (slotsZ p r nz).1 j).1 = _ := hq.2 j
   rw [hnew j hjN]
   unfold endZ
   rw [h3, if_pos h2.1]
   exact h2
  ·rw [gz_out (by rw [hl]; exact hjN)]
   exact ⟨rfl, rfl⟩
 ·have h3 : (gz (slotsZ p r nz).1 k).1 = _ := hq.2 k
  rw [hnew k hkN]
  unfold endZ
  split
  ·rw [h3]; exact hpkk.1
  ·simp only
   rw [hh, stepI_nil, Int.add_zero, h3]
   show wrap64 (gz (hostsZ p r nz).1 k).1.ck = _
   have hw2 := wantZ_le p.s.drifts p.c.g pw k hg (r + 1)
   have e : p.c.g * ((r + 1 : Nat) : Int) = p.c.g * r + p.c.g := by rw [Int.natCast_add, Int.mul_add]; simp
   rw [e] at hw2
   rw [hpkk.1]
   exact w64_q _ (by omega) (by omega)
 ·have h3 : (gz (slotsZ p r nz).1 k).1 = _ := hq.2 k
  have hst : (gz (slotsZ p r nz).1 k).1.st = (gz (hostsZ p r nz).1 k).1.st := by rw [h3]
  rw [hnew k hkN]
  unfold endZ
  rcases hpkk.2 with ⟨h1, h2⟩ | ⟨h1, h2⟩
  ·rw [if_pos (by rw [hst]; exact h2)]
   exact .inl ⟨h1, by rw [hst]; exact h2⟩
  ·rw [if_neg (by rw [hst]; omega)]
   simp only
   rw [hh, hst]
   exact .inr ⟨h1, nextSt_in ok.hc _ _ _ h2⟩
end Go.Proofs.YtgcgglmmfgmaoaaGreat.PK
end
section
namespace Go.Proofs.YtgcgglmmfgmaoaaGreat.PK
open Go Go.RowKit Go.Proofs.YtgcgglmmfgmaoaaGreatW.PrintWords Go.Proofs.YtgcgglmmfgmaoaaGreatW.PrintLast Go.Proofs.YtgcgglmmfgmaoaaGreatW.PrintMore
attribute [local go_sem] max2_int min2_int max_two min_two
theorem R_int_set {T base : Nat} {W : World} {ok : Nat → Prop} {A : Option Addr} {n c : Nat} {xs : List Int} (h : Kd.R (Kd.int .i64) T W base ok (.slice A n c) xs) (i : Nat) (hi : i < xs.length) (x : Int) :
  ∃ g, A = some ⟨g, 0, none⟩ ∧ base ≤ g ∧ (∃ u, W.cell? ⟨g, i, none⟩ = some u) ∧ W.frozen? ⟨g, i, none⟩ = false ∧ Kd.R (Kd.int .i64) T (W.setCell ⟨g, i, none⟩ (.int .i64 x)) base ok (.slice A n c) (xs.set i x) ∧ ∃ cells, W.heap[g]? = some (.cells cells T (0, 0)) := by
 obtain ⟨g, e⟩ : ∃ g, A = some ⟨g, 0, none⟩ := by
  obtain ⟨h0, inner, ⟨hl, ho⟩, hr⟩ := h
  rcases ho with ⟨hv, hn⟩ | ⟨g, cap, cur, hv, _⟩
  ·omega
  ·injection hv with e1 _ _
   exact ⟨g, e1⟩
 subst e
 obtain ⟨A', c', e9⟩ := Kd.R_slice h
 injection e9 with e1 e2 e3
 subst e2
 obtain ⟨cells, hc⟩ := Kd.R_typed h g rfl
 have hcell := (RdT.of_R h).int_cell i hi
 rw [add_plain] at hcell
 have hp := Kd.R_put h (i : Int) x
 rw [Int.toNat_natCast] at hp
 refine ⟨g, rfl, R_base h g rfl, ⟨_, hcell⟩, blk_frozen hc i, ?_, cells, hc⟩
 exact hp.1
theorem info_scr : (Tryz.prog.info? 36).map (·.size) = some 11 := by kernel_rfl
theorem zFt_ok (c : Cf) : Ft.OK ⟨0, 0, 0, 0, [], []⟩ c := ⟨by decide, by decide, by decide, by show (0 : Int) < if (0 : Int) = 1 then _ else if (0 : Int) = 2 then _ else 1; simp, by decide, by decide, by decide, by decide, by decide, fun x hx => by simp at hx⟩
theorem Kp.b2 {F : Nat → Prop} {a b c : World} (h : Kp F a b) (k : Below a.heap.size b c) : Kp F a c := ⟨k.os.trans h.os, k.tape.trans h.tape, k.output.trans h.output, Nat.le_trans h.size k.size, fun i hi hn => (k.block i hi).trans (h.block i hi hn)⟩
theorem net_Clock_val (p : NtP) (ok0 : p.OK) (nb : Nat) (round : Int) (nz : List Nz) (sl : List Sl) (es : List Int) (i : Nat) (hi : i < p.N) (x : Int) (hx : (gz nz i).1.ck = x) (w : World) (h : NI p w nb round nz sl es) (W : World) (hb : Below w.heap.size w W) :
  Calls Tryz.prog 25 #[.pointer (some ⟨p.g, 0, none⟩), .int .i64 i] W fun e w' => e = .returned (.int .i64 x) ∧ Below W.heap.size W w' := by
 have h1 := net_Clock p ok0 nb round nz sl es i hi W (h.below hb)
 rw [hx] at h1
 exact h1
theorem pick_close {g x V : Int} {ps : List Int} {n : Int} {ix r : Nat} (g0 : 0 ≤ g) (g1 : g ≤ 100) (hr : r ≤ 40) (hV : -(g * r) ≤ V ∧ V ≤ g * r) (hl : 0 < ps.length) (hi : n % ps.length = ix) (hx : x = rd ps ix) :
  (wrap64 (-g) < (if x < g then x else g) → x < g → wrap64 (V + x) = V + pickI ps n g) ∧ (wrap64 (-g) < (if x < g then x else g) → g ≤ x → wrap64 (V + g) = V + pickI ps n g) ∧ ((if x < g then x else g) ≤ wrap64 (-g) → wrap64 (V + wrap64 (-g)) = V + pickI ps n g) := by
 have e : pickI ps n g = min (max x (-g)) g := by unfold pickI; rw [if_neg (by omega), hi, ← hx]
 have hm : g * r ≤ 100 * 40 := Int.mul_le_mul g1 (by omega) (by omega) (by omega)
 rw [e, w64_q (-g) (by omega) (by omega)]
 generalize g * (r : Int) = m at *
 clear e hi hx
 refine ⟨fun h1 h2 => ?_, fun h1 h2 => ?_, fun h1 => ?_⟩
 ·rw [if_pos h2] at h1
  rw [w64_q _ (by omega) (by omega)]; omega
 ·rw [if_neg (by omega)] at h1
  rw [w64_q _ (by omega) (by omega)]; omega
 ·rw [w64_q _ (by omega) (by omega)]
  by_cases h2 : x < g
  ·rw [if_pos h2] at h1; omega
  ·rw [if_neg h2] at h1; omega
def drSc (N k : Nat) (pw : Int) (dl : List Int) (R : Int) : Sc := ⟨(List.replicate N (-1)).set k pw, dl, [], [], ⟨0, 0, 0, 0, [], []⟩, R⟩
theorem drSc_ok {c : Cf} {N k : Nat} (hN : c.n = N) (h12 : N ≤ 12) {pw : Int} (h0 : 0 ≤ pw) (h1 : pw < 10) {dl : List Int} (hd : dl.length ≤ 20) {R : Int} (r0 : 0 ≤ R) (r1 : R < 40) (hn : 6 ≤ N) : (drSc N k pw dl R).OK c := by
 refine ⟨r0, by show R ≤ 200; omega, by show (((List.replicate N (-1 : Int)).set k pw).length : Int) = c.n; rw [List.length_set, List.length_replicate, hN], by show dl.length ≤ 60; omega, by show (0 : Nat) ≤ 60; omega, by show (0 : Nat) ≤ 100; omega, fun x hx => ?_, fun x hx => by simp [drSc] at hx, zFt_ok c⟩
 rcases List.mem_or_eq_of_mem_set (show x ∈ (List.replicate N (-1 : Int)).set k pw from hx) with h | h
 ·rw [List.eq_of_mem_replicate h]; omega
 ·rw [h]; omega
theorem drifts_calls (c0 c1 c2 c3 c4 : Int) (l0 : List Int) (A0 : Option Addr) (m0 : Nat) (dl : List Int) (Ad : Option Addr) (md : Nat) (an ao ar : Int) (w : World) (h0 : Kd.C (Kd.int .i64) w A0 l0.length l0) (hm0 : l0.length ≤ m0) (hd : Kd.C (Kd.int .i64) w Ad dl.length dl) (hmd : dl.length ≤ md) :
  Calls Tryz.prog 7 #[.agg #[.int .i64 c0, .int .i64 c1, .int .i64 c2, .int .i64 c3, .int .i64 c4, .slice A0 l0.length m0], .slice Ad dl.length md, .int .i64 an, .int .i64 ao, .int .i64 ar] w fun e w' => e = .returned (.bool true) ∧ Below w.heap.size w w' := by
 have HD := am hd
 have HMD := am hmd
 have KC := am (fun W (hb : Below w.heap.size w W) => law17_Conf c0 c1 c2 c3 c4 l0 A0 m0 W (Kd.C_below h0 hb) hm0)
 have hok := confL_ok c0 c1 c2 c3 c4 l0
 have hn := confL_n c0 c1 c2 c3 c4 l0
 generalize confL c0 c1 c2 c3 c4 l0 = C at *
 obtain ⟨N, hN⟩ : ∃ N : Nat, C.n = N := ⟨C.n.toNat, by have := hok.n6; omega⟩
 obtain ⟨Q, hQ⟩ : ∃ Q : Nat, C.slots = Q := ⟨C.slots.toNat, by have := slots_range hok; omega⟩
 have hOK := am hok
 have hNQ := am (show C.n = N ∧ C.slots = Q ∧ 6 ≤ N ∧ N ≤ 12 from ⟨hN, hQ, by have := hok.n6; omega, by have := hok.n12; omega⟩)
 have Ka := am (fun W => wit17 an N (by have := hNQ.out; omega) (by have := hNQ.out; omega) W)
 have Ko := am (fun W => wit17 ao 10 (by omega) (by omega) W)
 have Kr := am (fun W => wit17 ar 40 (by omega) (by omega) W)
 obtain ⟨k, hk⟩ : ∃ k : Nat, an % N = k := ⟨(an % N).toNat, by have := Int.emod_nonneg an (show (N : Int) ≠ 0 by have := hNQ.out; omega); omega⟩
 have hkN := am (show k < N by have := Int.emod_lt_of_pos an (show 0 < (N : Int) by have := hNQ.out; omega); omega)
 have bo : 0 ≤ ao % 10 ∧ ao % 10 < 10 := by omega
 have br : 0 ≤ ar % 40 ∧ ar % 40 < 40 := by omega
 rw [hk] at Ka
 generalize ao % 10 = pw at *
 generalize ar % 40 = R at *
 have BO := am (And.intro bo br)
 clear hk hok hn hQ h0 hm0 hd hmd
 go_enter Tryz.func7, Tryz.ntmps7
 go_upto_region 1 with (fail)
 have HB := am (b_al w (.cells #[.int .i64 c0, .int .i64 c1, .int .i64 c2, .int .i64 c3, .int .i64 c4, .slice A0 l0.length m0] 24))
 have HCB := am (blk_new w (.cells #[.int .i64 c0, .int .i64 c1, .int .i64 c2, .int .i64 c3, .int .i64 c4, .slice A0 l0.length m0] 24))
 generalize w.alloc (.cells #[.int .i64 c0, .int .i64 c1, .int .i64 c2, .int .i64 c3, .int .i64 c4, .slice A0 l0.length m0] 24) = W1 at *
 go_upto_region 3 with (go_at_call 13; refine (known_calls _).mono ?_; rintro e W2 ⟨rfl, hb⟩; have n1 := am (b_tr HB.out hb); have n2 := am (blk_below HCB.out hb); clear HB HCB hb; have HB := n1; have HCB := n2; clear n1 n2)
 have cc := cells6 HCB.out
 go_upto_region 4 with (first
  | (go_at_call 15; refine (KC.out _ HB.out).mono ?_; rintro e W3 ⟨A1, m1, rfl, hR, hb⟩; have HR := am hR; replace HB := am (b_tr HB.out hb); clear HCB hb cc hR)
  | (((with_reducible refine gate_ (.store 24 (.tmp 11) (.tmp 24)) rfl ?_); refine store_part rfl 24 (.tmp 11) (.tmp 24) rfl (W3.heap.size) 0 24 #[.int .i64 C.n, .int .i64 C.pi, .int .i64 C.e, .int .i64 C.g, .int .i64 C.first, .slice A1 C.pairs.length m1] [.int .i64 0, .int .i64 0, .int .i64 0, .int .i64 0, .int .i64 0, .slice none 0 0] rfl rfl (blk_new W3 _) (by simp) info_conf (by simp [Value.oneCell']) ?_; intro W4 HG4_ KG4_; have HG4 := am HG4_; have KG4 := am KG4_; clear HG4_ KG4_)))
 have b3 := b_al W3 (.cells #[.int .i64 0, .int .i64 0, .int .i64 0, .int .i64 0, .int .i64 0, .slice none 0 0] 24)
 have HG := am (show W4.heap[W3.heap.size]? = some (.cells #[.int .i64 C.n, .int .i64 C.pi, .int .i64 C.e, .int .i64 C.g, .int .i64 C.first, .slice A1 C.pairs.length m1] 24 (0, 0)) from HG4.out)
 have n1 := am (below_kp (b_tr HB.out b3) KG4.out HB.out.size (b_tr HB.out b3).size)
 have n2 := am ((HR.out.below b3).kp plain_int KG4.out (fun k cells e hc => by subst e; exact ne_of_types (blk_new W3 (.cells #[.int .i64 0, .int .i64 0, .int .i64 0, .int .i64 0, .int .i64 0, .slice none 0 0] 24)) hc (by decide) rfl))
 have hdb := am (show w.heap.size ≤ W3.heap.size from HB.out.size)
 clear HB HR HG4 KG4 b3 KC
 have HB := n1
 have HR := n2
 clear n1 n2
 generalize W3.heap.size = db at *
 have cc := cells6 HG.out
 rw [hN] at cc
 go_upto_region 6 with (first
  | (go_at_call 16; first | (with_reducible refine (Ka.out _).mono ?_; rintro e Wn ⟨rfl, hW⟩; rw [hW]; clear hW Wn) | (with_reducible refine (Ko.out _).mono ?_; rintro e Wn ⟨rfl, hW⟩; rw [hW]; clear hW Wn) | (with_reducible refine (Kr.out _).mono ?_; rintro e Wn ⟨rfl, hW⟩; rw [hW]; clear hW Wn))
  | (((with_reducible refine gate_ (.store 36 (.tmp 14) (.tmp 33)) rfl ?_); refine store_part rfl 36 (.tmp 14) (.tmp 33) rfl (W4.heap.size) 0 36 #[.slice none 0 0, .slice none 0 0, .slice none 0 0, .slice none 0 0, .int .i64 0, .int .i64 0, .int .i64 0, .int .i64 0, .slice none 0 0, .slice none 0 0, .int .i64 R] [.slice none 0 0, .slice none 0 0, .slice none 0 0, .slice none 0 0, .int .i64 0, .int .i64 0, .int .i64 0, .int .i64 0, .slice none 0 0, .slice none 0 0, .int .i64 0] rfl rfl (blk_new W4 _) (by simp) info_scr (by simp [Value.oneCell']) ?_; intro W5 HG5_ KG5_; have HG5 := am HG5_; have KG5 := am KG5_; clear HG5_ KG5_)))
 have b4 := b_al W4 (.cells #[.slice none 0 0, .slice none 0 0, .slice none 0 0, .slice none 0 0, .int .i64 0, .int .i64 0, .int .i64 0, .int .i64 0, .slice none 0 0, .slice none 0 0, .int .i64 0] 36)
 have HSc := am (show W5.heap[W4.heap.size]? = some (.cells #[.slice none 0 0, .slice none 0 0, .slice none 0 0, .slice none 0 0, .int .i64 0, .int .i64 0, .int .i64 0, .int .i64 0, .slice none 0 0, .slice none 0 0, .int .i64 R] 36 (0, 0)) from HG5.out)
 have n1 := am (below_kp (b_tr HB.out b4) KG5.out HB.out.size (b_tr HB.out b4).size)
 have n2 := am ((HR.out.below b4).kp plain_int KG5.out (fun k cells e hc => by subst e; exact ne_of_types (blk_new W4 (.cells #[.slice none 0 0, .slice none 0 0, .slice none 0 0, .slice none 0 0, .int .i64 0, .int .i64 0, .int .i64 0, .int .i64 0, .slice none 0 0, .slice none 0 0, .int .i64 0] 36)) hc (by decide) rfl))
 have n3 := am (KG5.out.blk (blk_below HG.out b4) (fun e => by have := blk_lt HG.out; omega))
 have hsb := am (show db < W4.heap.size from blk_lt HG.out)
 clear HB HR HG HG5 KG5 b4 cc Ka Ko Kr
 have HB := n1
 have HR := n2
 have HG := n3
 clear n1 n2 n3
 generalize W4.heap.size = sb at *
 clear W4 W3 W2 W1
 go_wp2
 go_loopw [15] (fun v w' => ∃ i : Nat, v = .int .i64 i ∧ i ≤ N ∧ Aside0 (Kp (fun k => k = sb) W5 w') ∧ Aside0 (∃ pv, w'.heap[sb]? = some (.cells #[pv, .slice none 0 0, .slice none 0 0, .slice none 0 0, .int .i64 0, .int .i64 0, .int .i64 0, .int .i64 0, .slice none 0 0, .slice none 0 0, .int .i64 R] 36 (0, 0)) ∧ Kd.R (Kd.int .i64) 3 w' W5.heap.size (fun _ => True) pv (List.replicate i (-1)))) (fun v _ => N - (intOf v).toNat)
 case atStart => exact ⟨0, rfl, Nat.zero_le _, ⟨Kp.refl _ _⟩, ⟨_, HSc.out, Kd.R_nil _ _ _ _ _⟩⟩
 case round =>
  obtain ⟨i, rfl, hi, HK, hP⟩ := hrel
  obtain ⟨pv, hS, hRo⟩ := hP.out
  obtain ⟨on, hon⟩ : ∃ on, List.replicate i (-1 : Int) = on := ⟨_, rfl⟩
  rw [hon] at hRo
  obtain ⟨Ap, cp, rfl⟩ := Kd.R_slice hRo
  have HS := am hS
  have HRo := am hRo
  have ss := cells11 hS
  have cc := cells6 (HK.out.blk HG.out (fun e => by have := hsb.out; omega))
  rw [hN] at cc
  by_cases hlt : i < N
  ·have hlt9 := am hlt
   have hi12 : i ≤ 12 := by have := hNQ.out; omega
   have HST := am (show List.replicate (i + 1) (-1 : Int) = on ++ [-1] by rw [List.replicate_succ', hon])
   have hol := am (show on.length ≤ 12 by rw [← hon]; simp; omega)
   have q3 := eq_true (show ((i : Int) < (N : Int)) by omega)
   clear hS hRo hP hon hlt hi
   go_wp2_with ((with_reducible refine gate_builtin (b := .append) (xs := #[.tmp 41, .tmp 42]) rfl ?_); at_builtin; refine Kd.R_append (Kd.int .i64) (w0 := wr) W5.heap.size rfl (.tmp 41) (.tmp 42) 22 3 (.int .i64 0) 8 rfl Tryz.underlying22 info_int_ rfl (by decide) (by omega) _ on (-1) [.int .i64 (-1)] (fun _ => True) (fun _ => False) rfl rfl rfl (fun _ h => h.elim) (fun _ _ => trivial) HRo.out (Below.refl _ _) HK.out.size (by have := hol.out; omega) ?_; intro v4 W6 ho hb hg_ hat_; have R6 := am ho; have K6 := am (HK.out.b2 hb); have S6 := am ((hg_.block _ (blk_lt HS.out) (fun e => by obtain ⟨cells, hc⟩ := Kd.R_typed HRo.out _ e.symm; exact ne_of_types hc HS.out (by decide) rfl)).trans HS.out); obtain ⟨A6, c6, hv6⟩ := Kd.R_slice ho; subst hv6; clear ho hb hg_ hat_; have y9 := (blk_cell S6.out 0).trans rfl; have yf9 := blk_frozen S6.out 0)
   go_roundw
   case rel => exact ⟨i + 1, by simp, hlt9.out, ⟨K6.out.set_ (p := ⟨sb, 0, none⟩) (.inl rfl) _⟩, ⟨_, blk_put S6.out 0 _ rfl, by
    rw [HST.out]
    have h9 := R6.out
    rw [List.length_append, List.length_singleton] at h9
    exact err_keep h9 (fun g hg => by
     obtain ⟨cells, hc⟩ := Kd.R_typed h9 g hg
     exact ((Kp.refl (fun k => k = sb) W6).set_ (p := ⟨sb, 0, none⟩) (.inl rfl) _).block g (blk_lt hc) (fun e => ne_of_types hc S6.out (by decide) e))⟩⟩
   case measure => have := hlt9.out; simp [intOf]; omega
  ·obtain rfl : i = N := by omega
   obtain ⟨gr, hgr, hgb, ⟨u9, hu9⟩, hfr, hRk, hty⟩ := R_int_set hRo k (by rw [← hon]; simpa using hkN.out) pw
   subst hgr
   obtain ⟨cellsr, hcr⟩ := hty
   have hkl := hkN.out
   have q3 := eq_false (show ¬ ((i : Int) < (i : Int)) by omega)
   have q4 := eq_true (show k < on.length by rw [← hon]; simpa using hkN.out)
   have q5 := eq_true (show ((k : Int) < (on.length : Int)) by rw [← hon]; simpa using hkN.out)
   have hon9 := am hon
   go_upto_region 11 with (fail)
   have kgr := (Kp.refl (fun k => k = gr) wr).set_ (p := ⟨gr, k, none⟩) (.inl rfl) (.int .i64 pw)
   have HS2 := am (kgr.blk hS (fun e => ne_of_types hS hcr (by decide) e))
   have HR2 := am hRk
   have K2 := am (HK.out.set_ (p := ⟨gr, k, none⟩) (.inr hgb) (.int .i64 pw))
   have HON := am (show on.set k pw = (drSc i k pw [] 0).on by rw [← hon]; rfl)
   clear hS hRo hP hlt hi HS HRo HK ss cc hRk hu9 hfr q3 q4 q5 hcr kgr hgb hon hkl
   generalize wr.setCell ⟨gr, k, none⟩ (.int .i64 pw) = W10 at *
   go_wp2
   have hsw := am (show w.heap.size ≤ sb by have := hdb.out; have := hsb.out; omega)
   go_loopw [16] (fun v w' => ∃ j : Nat, v = .int .i64 j ∧ j ≤ dl.length ∧ j ≤ 20 ∧ Aside0 (Kp (fun k => k = sb) W10 w') ∧ Aside0 (∃ pv, w'.heap[sb]? = some (.cells #[.slice (some ⟨gr, 0, none⟩) on.length cp, pv, .slice none 0 0, .slice none 0 0, .int .i64 0, .int .i64 0, .int .i64 0, .int .i64 0, .slice none 0 0, .slice none 0 0, .int .i64 R] 36 (0, 0)) ∧ Kd.R (Kd.int .i64) 3 w' W10.heap.size (fun _ => True) pv (dl.take j))) (fun v _ => dl.length - (intOf v).toNat)
   case atStart => exact ⟨0, rfl, Nat.zero_le _, Nat.zero_le _, ⟨Kp.refl _ _⟩, ⟨_, HS2.out, Kd.R_nil _ _ _ _ _⟩⟩
   case round =>
    obtain ⟨j, rfl, hj, hj20, HK, hP⟩ := hrel
    obtain ⟨pv, hS, hRo⟩ := hP.out
    obtain ⟨ps, hps⟩ : ∃ ps, dl.take j = ps := ⟨_, rfl⟩
    rw [hps] at hRo
    obtain ⟨Ap, cpp, rfl⟩ := Kd.R_slice hRo
    have HS := am hS
    have HPS := am hRo
    have HPE := am hps
    have hpl := am (show ps.length ≤ 20 by rw [← hps]; simp; omega)
    have HJ := am (And.intro hj hj20)
    have bw := am (show Below w.heap.size w wr from (HB.out.trans (K2.out.below HB.out.size (fun i hi e => by have := hsw.out; omega))).trans (HK.out.below (Nat.le_trans HB.out.size K2.out.size) (fun i hi e => by have := hsw.out; omega)))
    have hmd := HMD.out
    by_cases hlt : j < dl.length ∧ j < 20
    ·have hlt9 := am hlt
     have q1 := eq_true (show ((j : Int) < (dl.length : Int)) by omega)
     have q2 := eq_true (show ((j : Int) < 20) by omega)
     have q3 := eq_true (show j < dl.length from hlt.1)
     have q4 := eq_true (show j < 20 from hlt.2)
     obtain ⟨x, hx⟩ : ∃ x, dl[j]? = some x := ⟨_, List.getElem?_eq_getElem hlt.1⟩
     have hrd : rd dl (j : Int) = x := by unfold rd; rw [Int.toNat_natCast, List.getD_eq_getElem?_getD, hx]; rfl
     have HST := am (show dl.take (j + 1) = ps ++ [x] by rw [List.take_add_one, hx, hps]; rfl)
     have hR2 : RdT0 (Kd.int .i64) wr (.slice Ad dl.length md) dl := ⟨Ad, md, rfl, hmd, Kd.C_below HD.out bw.out⟩
     obtain ⟨ad, hA, hcx⟩ := hR2.int_at j hlt.1
     obtain rfl := hA
     rw [hrd] at hcx
     have ss := cells11 hS
     clear hS hRo hP hps hj hj20 hlt hx hrd hR2
     go_upto_region 14 with (fail)
     have HN := am (below_drew (Below.refl wr.heap.size wr))
     refine startB (n := 10) (F := fun _ => False) (ds := [7, 9]) (by kernel_rfl) rfl (fun hHeld => ?_)
     refine plan_ [.p 0 60, .t 1 61, .p 2 62, .p 3 63, .p 4 64, .t 5 65] ?_
     repeat (first | refine jP ?_ | refine jW hHeld ?_ | refine jG ?_)
     refine planE ?_
     refine jO 6 (some 66) (fun K hK => ?_)
     refine value_ (v := .slice (some ⟨wr.drew.heap.size, 0, none⟩) 1 1) (w1 := wr.drew.alloc (.cells #[.int .i64 x] 3)) (by rfl) rfl (by go_simp; try rfl) ?_
     refine hK.out _ _ (((Kp.of HN.out).then_ (b_al _ _))) (fun hHeld => ?_)
     clear hK K
     refine jM 66 ?_
     refine jL 7 (some 67) (fun K hK => ?_)
     refine Kd.R_append_step (Kd.int .i64) (w0 := wr.drew) (W := wr.drew) W10.heap.size (by rfl) (.tmp 61) (.tmp 66) 22 3 (.int .i64 0) 8 rfl Tryz.underlying22 info_int_ rfl (by decide) (by omega) _ ps x [.int .i64 x] (fun _ => True) (fun _ => False) rfl rfl rfl (fun _ h => h.elim) (fun _ _ => trivial) (Kd.R_below HPS.out HN.out) (Below.refl _ _) (Nat.le_trans HK.out.size HN.out.size) (by have := hpl.out; omega) ?_
     intro v4 W4 hR4 hB4 hg4 _
     have HK4 := am ((HK.out.then_ HN.out).b2 hB4)
     have HR4 := am hR4
     have HG4 := am ((hg4.block _ (blk_lt (blk_below HS.out HN.out)) (fun e => by obtain ⟨cells, hc⟩ := Kd.R_typed (Kd.R_below HPS.out HN.out) _ e.symm; exact ne_of_types hc (blk_below HS.out HN.out) (by decide) rfl)).trans (blk_below HS.out HN.out))
     clear hR4 hg4 hB4
     obtain ⟨A4, c4, rfl⟩ := Kd.R_slice HR4.out
     refine hK.out _ _ ?_
     clear hK K
     refine jM 67 ?_
     refine plan_ [.p 8 68] ?_
     repeat (first | refine jP ?_ | refine jW hHeld ?_ | refine jG ?_)
     refine planE ?_
     refine jL 9 none (fun K hK => ?_)
     have y9 := (blk_cell HG4.out 1).trans rfl
     have yf9 := blk_frozen HG4.out 1
     refine skip_ (w1 := W4.setCell ⟨sb, 1, none⟩ (.slice A4 (ps ++ [x]).length c4)) (by rfl) rfl (by go_simp; try rfl) ?_
     refine hK.out _ _ ?_
     clear hK K
     refine done_ (by kernel_rfl) ?_
     have kg := (Kp.refl (fun k => k = sb) W4).set_ (p := ⟨sb, 1, none⟩) (.inl rfl) (.slice A4 (ps ++ [x]).length c4)
     have n1 := am (HK4.out.set_ (p := ⟨sb, 1, none⟩) (.inl rfl) (.slice A4 (ps ++ [x]).length c4))
     have n4 := am (blk_put HG4.out 1 (.slice A4 (ps ++ [x]).length c4) (cs' := #[.slice (some ⟨gr, 0, none⟩) on.length cp, .slice A4 (ps ++ [x]).length c4, .slice none 0 0, .slice none 0 0, .int .i64 0, .int .i64 0, .int .i64 0, .int .i64 0, .slice none 0 0, .slice none 0 0, .int .i64 R]) rfl)
     have n5 := am (err_keep HR4.out (W' := W4.setCell ⟨sb, 1, none⟩ (.slice A4 (ps ++ [x]).length c4)) (fun g hg => by
      obtain ⟨cells, hc⟩ := Kd.R_typed HR4.out g hg
      exact kg.block g (blk_lt hc) (fun e => ne_of_types hc HG4.out (by decide) e)))
     clear HK HS HPS HN ss HK4 HR4 HG4 kg y9 yf9 hHeld hcx
     generalize W4.setCell ⟨sb, 1, none⟩ (.slice A4 (ps ++ [x]).length c4) = W6 at *
     have hj9 : j ≤ 20 := HJ.out.2
     go_wp2
     go_roundw
     case rel => exact ⟨j + 1, by simp, by have := hlt9.out; omega, by have := hlt9.out; omega, n1, ⟨_, n4.out, by rw [HST.out]; exact n5.out⟩⟩
     case measure => have := hlt9.out; simp [intOf]; omega
    ·have htk : dl.take j = dl.take 20 := by
      by_cases h3 : j = 20
      ·rw [h3]
      ·rw [List.take_of_length_le (by omega), List.take_of_length_le (by omega)]
     have HDT := am (show ps = dl.take 20 by rw [← htk, hps])
     have hq : (j : Int) < (dl.length : Int) ∧ ¬ ((j : Int) < 20) ∨ ¬ ((j : Int) < (dl.length : Int)) := by omega
     obtain ⟨on2, hon2⟩ : ∃ on2, on.set k pw = on2 := ⟨_, rfl⟩
     have hol : on.length = on2.length := by rw [← hon2, List.length_set]
     have HON2 := am (show on2 = (drSc i k pw [] 0).on by rw [← hon2]; exact HON.out)
     have hRT := (RdT.of_R HR2.out).kp plain_int HK.out (fun k cells e hc => by subst e; exact ne_of_types HS2.out hc (by decide) rfl)
     rw [hon2] at hRT
     rw [hol] at hS hRT
     have hPR := (HR.out.kp plain_int K2.out (fun k cells e hc => by subst e; exact ne_of_types HSc.out hc (by decide) rfl)).kp plain_int HK.out (fun k cells e hc => by subst e; exact ne_of_types HS2.out hc (by decide) rfl)
     have KN := am (net_New C hOK.out ⟨on2, ps, [], [], ⟨0, 0, 0, 0, [], []⟩, R⟩ (by
      have h1 := drSc_ok (c := C) (N := i) (k := k) hN (by have := hNQ.out; omega) BO.out.1.1 BO.out.1.2 (dl := ps) hpl.out BO.out.2.1 BO.out.2.2 (by have := hNQ.out; omega)
      unfold drSc at h1
      rw [show (List.replicate i (-1 : Int)).set k pw = on2 from HON2.out.symm] at h1
      exact h1) i Q hN hNQ.out.2.1 A1 m1 ⟨some ⟨gr, 0, none⟩, cp, Ap, cpp, none, 0, none, 0, none, 0, none, 0⟩ wr hPR.C ⟨⟨hRT.C.1, hRT.C.2⟩, ⟨(RdT.of_R hRo).C.1, (RdT.of_R hRo).C.2⟩, ⟨Kd.C_nil _ _, Nat.le_refl _⟩, ⟨Kd.C_nil _ _, Nat.le_refl _⟩, ⟨⟨Kd.C_nil _ _, Nat.le_refl _⟩, ⟨Kd.C_nil _ _, Nat.le_refl _⟩⟩⟩)
     have ss := cells11 hS
     have HS := am hS
     have HGw := am ((HK.out.blk (K2.out.blk HG.out (fun e => by have := hsb.out; omega)) (fun e => by have := hsb.out; omega)))
     have HPW := am (RdT.of_R hRo)
     have cc := cells6 HGw.out
     have hj9 := am (And.intro hj hj20)
     clear hS hRo hP hps hj hj20 hlt htk hon2 hol hRT hPR
     go_upto_region 12 with (fail)
     go_cut [57] (fun v57 wc => v57 = .bool false ∧ Aside0 (wc = wr))
     case first =>
      rcases hq with ⟨h1, h2⟩ | h1
      ·have q1 := eq_true h1
       have q2 := eq_false h2
       have q3 := eq_true (show j < dl.length by omega)
       have q4 := eq_false (show ¬ j < 20 by omega)
       clear h1 h2
       go_wp2
       go_meet
       case rel => exact ⟨rfl, ⟨rfl⟩⟩
      ·have q1 := eq_false h1
       have q3 := eq_false (show ¬ j < dl.length by omega)
       clear h1
       go_wp2
       go_meet
       case rel => exact ⟨rfl, ⟨rfl⟩⟩
     case rest =>
      obtain ⟨rfl, ⟨hwc⟩⟩ := hcut
      rw [hwc]
      clear hwc wc
      obtain ⟨w14, h14⟩ : ∃ x, x = wr := ⟨_, rfl⟩
      subst h14
      clear hq hN
      go_upto_region 16 with (go_at_call 18; refine Calls.mono KN.out ?_; rintro e W15 ⟨p, ok, hpc, hps, hpN, hpQ, rfl, ⟨nb, nz, hNI, hz, hfs⟩, hb⟩; have OK := am ok; have HP := am (And.intro hpc (And.intro hps (And.intro hpN hpQ))); have HI := am hNI; have HZ := am hz; have HFS := am hfs; have HB15 := am hb; clear ok hpc hps hpN hpQ hNI hz hfs hb)
      obtain ⟨Rn, hRn⟩ : ∃ n : Nat, R = n := ⟨R.toNat, by have := BO.out; omega⟩
      have HRn := am hRn
      have HPO := am (show p.s.drifts = ps ∧ p.c = C ∧ p.N = i ∧ p.s.rounds = R ∧ p.s.f.kind = 0 ∧ p.s.calls = [] ∧ ∀ j, j < p.N → rd p.s.on j = if j = k then pw else -1 from by
       obtain ⟨h1, h2, h3, h4⟩ := HP.out
       refine ⟨by rw [h2], h1, h3, by rw [h2], by rw [h2], by rw [h2], fun j hj => ?_⟩
       rw [h2]
       show rd on2 j = _
       rw [HON2.out]
       show ((List.replicate i (-1 : Int)).set k pw).getD (j : Int).toNat 0 = _
       rw [Int.toNat_natCast, List.getD_eq_getElem?_getD]
       by_cases hjk : k = j
       ·subst hjk
        rw [List.getElem?_set_self (by simp; omega), if_pos rfl]; rfl
       ·rw [List.getElem?_set_ne hjk, List.getElem?_replicate, if_pos (by omega), if_neg (fun e => hjk e.symm)]; rfl)
      have HD0 := am (show DrI p k pw 0 nz from by
       have h1 : ∀ j, (gz nz j).1.st = 0 ∧ (gz nz j).1.ck = 0 := fun j => by
        by_cases hj : j < nz.length
        ·have e : (gz nz j).1 = nd0 Q := gz_fst HZ.out (by rw [List.getElem?_replicate, if_pos (by have h9 := congrArg List.length HZ.out; rw [List.length_map, List.length_replicate] at h9; omega)])
         rw [e]; exact ⟨rfl, rfl⟩
        ·rw [gz_out hj]; exact ⟨rfl, rfl⟩
       exact ⟨by have h9 := congrArg List.length HZ.out; rw [List.length_map, List.length_replicate] at h9; rw [h9, HPO.out.2.2.1], fun j _ => h1 j, (h1 k).2, .inl ⟨BO.out.1.1, (h1 k).1⟩⟩)
      clear hRn
      go_wp2
      go_loopw [19, 20] (fun vw vr w' => ∃ r : Nat, vr = .int .i64 r ∧ r ≤ Rn ∧ vw = .int .i64 (wantZ ps C.g pw k r) ∧ Aside0 (Below w14.heap.size w14 w') ∧ Aside0 (∃ nb nz sl es, NI p w' nb r nz sl es ∧ (∀ b, FS p nb nz b → w14.heap.size ≤ b) ∧ DrI p k pw r nz)) (fun _ v _ => Rn - (intOf v).toNat)
      case atStart => exact ⟨0, rfl, Nat.zero_le _, rfl, HB15, ⟨nb, nz, [], [], HI.out, HFS.out, HD0.out⟩⟩
      case round =>
       clear HB15 HI HFS HD0 HZ
       obtain ⟨r, rfl, hr, rfl, HBW, hP⟩ := hrel
       obtain ⟨nb, nz, sl, es, hNI, hfs, hdr⟩ := hP.out
       have HS3 := am (blk_below HS.out HBW.out)
       have HG3 := am (blk_below HGw.out HBW.out)
       have HP3 := am (HPW.out.below HBW.out)
       have ss := cells11 HS3.out
       have cc := cells6 HG3.out
       rw [show R = (Rn : Int) from HRn.out] at ss
       by_cases hlt : r < Rn
       ·have hlt9 := am hlt
        have KT := am (net_Step_go p OK.out nb r (by omega) nz sl es wr hNI (by rw [HPO.out.2.2.2.1, HRn.out]; omega))
        have HST := am (fun nz' (hm : nz'.map (fun z => z.1) = stepN p r nz) => hdr.step OK.out (nz' := nz') (by rw [HPO.out.2.2.1]; exact hkN.out) HPO.out.2.2.2.2.1 HPO.out.2.2.2.2.2.1 HPO.out.2.2.2.2.2.2 (by have := BO.out; have := HRn.out; omega) hm)
        have HFS := am hfs
        have q1 := eq_true (show ((r : Int) < (Rn : Int)) by omega)
        clear hNI hfs hdr hP hlt hr
        go_upto_region 23 with (go_at_call 19; refine Calls.mono KT.out ?_; rintro e W20 ⟨rfl, ⟨nb', nz', hN', hm', hfs'⟩, hk'⟩; have HI4 := am hN'; have HD4 := am (HST.out nz' hm'); have BK := am (hk'.below HBW.out.size (fun b hb hf => by have := HFS.out b hf; omega)); have HFS4 := am (fun b hf => show w14.heap.size ≤ b from by rcases hfs' b hf with h1 | h1; exact HFS.out b h1; exact Nat.le_trans HBW.out.size h1); clear hN' hm' hfs' hk')
        have HBW4 := am (HBW.out.trans BK.out)
        have HS4 := am (blk_below HS.out HBW4.out)
        have HG4 := am (blk_below HGw.out HBW4.out)
        have HP4 := am (HPW.out.below HBW4.out)
        clear ss cc HS3 HG3 HP3 HBW BK KT HST HFS q1
        have ss := cells11 HS4.out
        have cc := cells6 HG4.out
        obtain ⟨bb, hbb⟩ : ∃ bb : Bool, bb = decide (pw ≤ r ∧ 0 < ps.length) := ⟨_, rfl⟩
        have HBB := am hbb
        have hr40 : r ≤ 40 := by have := BO.out; have := HRn.out; have := hlt9.out; omega
        clear hbb
        go_cut [97] (fun v97 wd => v97 = .bool bb ∧ Aside0 (wd = W20))
        case first =>
         by_cases h1 : pw ≤ r
         ·have q1 := eq_true h1
          by_cases h2 : 0 < ps.length
          ·have hb0 : bb = true := by rw [HBB.out]; exact decide_eq_true ⟨h1, h2⟩
           subst hb0
           have q2 := eq_true h2
           have q3 := eq_true (show (0 : Int) < (ps.length : Int) by omega)
           clear HBB h1 h2
           go_wp2
           go_meet
           case rel => exact ⟨rfl, ⟨rfl⟩⟩
          ·have hb0 : bb = false := by rw [HBB.out]; exact decide_eq_false (fun e => h2 e.2)
           subst hb0
           have q2 := eq_false h2
           have q3 := eq_false (show ¬ (0 : Int) < (ps.length : Int) by omega)
           clear HBB h1 h2
           go_wp2
           go_meet
           case rel => exact ⟨rfl, ⟨rfl⟩⟩
         ·have hb0 : bb = false := by rw [HBB.out]; exact decide_eq_false (fun e => h1 e.1)
          subst hb0
          have q1 := eq_false h1
          clear HBB h1
          go_wp2
          go_meet
          case rel => exact ⟨rfl, ⟨rfl⟩⟩
        case rest =>
         obtain ⟨rfl, ⟨hwd⟩⟩ := hcut
         rw [hwd]
         clear hwd wc
         go_upto_if 97 with (fail)
         obtain ⟨wn, hwn⟩ : ∃ wn, wn = wantZ ps C.g pw k (r + 1) := ⟨_, rfl⟩
         have HWN := am hwn
         clear hwn
         go_cut [19] (fun v19 we => v19 = .int .i64 wn ∧ Aside0 (Below W20.heap.size W20 we))
         case first =>
          cases bb
          ·have hbf : ¬ (pw ≤ r ∧ 0 < ps.length) := by have := HBB.out; simpa using this.symm
           have HBF := am hbf
           clear hbf HBB
           go_wp2
           go_meet
           case rel =>
            refine ⟨?_, ⟨Below.refl _ _⟩⟩
            rw [HWN.out, wantZ]
            congr 1
            split
            ·have h9 := HBF.out
             have : ps.length = 0 := by omega
             unfold pickI
             rw [if_pos this]; omega
            ·omega
          ·have hbt : pw ≤ r ∧ 0 < ps.length := by have := HBB.out; simpa using this.symm
           have HBT := am hbt
           have hk12 : k ≤ 12 := by have := hkN.out; have := hNQ.out; omega
           have hpl9 := hpl.out
           obtain ⟨ix, hix, hixl⟩ : ∃ ix : Nat, (11 * (r : Int) + k) % (ps.length : Int) = (ix : Int) ∧ ix < ps.length := by
            have h1 := Int.emod_nonneg (11 * (r : Int) + k) (show (ps.length : Int) ≠ 0 by omega)
            have h2 := Int.emod_lt_of_pos (11 * (r : Int) + k) (show (0 : Int) < (ps.length : Int) by omega)
            exact ⟨((11 * (r : Int) + k) % (ps.length : Int)).toNat, by omega, by omega⟩
           have HIX := am hix
           have q5 := eq_true (show ((ix : Int) < (ps.length : Int)) by omega)
           have q6 := eq_true hixl
           have q7 : ((ps.length : Int) == 0) = false := beq_eq_false_iff_ne.2 (by omega)
           have q8 : ¬ (ps.length : Int) = 0 := by omega
           have q9 : ¬ ps.length = 0 := by omega
           have hR4 : RdT0 (Kd.int .i64) W20 (.slice Ap ps.length cpp) ps := ⟨Ap, cpp, rfl, HP4.out.C.2, HP4.out.C.1⟩
           obtain ⟨ad, hA, hcx⟩ := hR4.int_at ix hixl
           obtain ⟨x, hx⟩ : ∃ x, x = rd ps (ix : Int) := ⟨_, rfl⟩
           rw [← hx] at hcx
           have HX := am hx
           rw [hA] at ss
           have e1 : Int.tmod (11 * (r : Int) + k) (ps.length : Int) = (ix : Int) := by rw [Int.tmod_eq_emod_of_nonneg (by omega)]; exact hix
           have e2 : Int.tmod (wrap64 (wrap64 (11 * (r : Int)) + k)) (ps.length : Int) = (ix : Int) := by rw [w64_q (11 * (r : Int)) (by omega) (by omega), w64_q (11 * (r : Int) + k) (by omega) (by omega)]; exact e1
           clear hbt HBB hpl9 hix hixl hR4 hx hA
           have HN := am (below_drew (Below.refl W20.heap.size W20))
           go_upto_region 24 with (fail)
           refine startB (n := 22) (F := fun _ => False) (ds := []) (by kernel_rfl) rfl (fun hHeld => ?_)
           refine plan_ [.p 0 98, .p 1 99, .t 2 100, .p 3 101, .p 4 102, .t 5 103, .p 6 104, .t 7 105, .p 8 106, .p 9 107, .p 10 108, .p 11 109, .p 12 110, .t 13 111, .p 14 112, .p 15 113, .p 16 114, .t 17 115, .p 18 116, .p 19 117, .p 20 118, .p 21 19] ?_
           repeat (first | refine jP ?_ | refine jW hHeld ?_ | refine jG ?_)
           refine planE ?_
           refine done_ (by kernel_rfl) ?_
           clear hHeld
           generalize W20.drew = W24 at *
           go_wp2
           all_goals (go_meet; case rel =>
            refine ⟨?_, HN⟩
            rw [HWN.out, wantZ, if_pos HBT.out.1]
            congr 1
            have z := pick_close hOK.out.g0 hOK.out.g1 hr40 (wantZ_le ps C.g pw k hOK.out.g0 r) HBT.out.2 HIX.out HX.out
            first
             | exact z.1 (by assumption) (by assumption)
             | exact z.2.2 (by assumption)
             | exact z.2.1 (by assumption) (by assumption)
             | exact z.2.1 (by assumption) (Int.not_lt.1 (by assumption)))
         case rest =>
          obtain ⟨rfl, HWE⟩ := hcut
          obtain ⟨k2, hk2, hk2N⟩ : ∃ k2 : Nat, Int.tmod ((k : Int) + 1) (i : Int) = (k2 : Int) ∧ k2 < i ∧ k2 ≠ k := by
           have h1 := hkN.out
           have h2 := hNQ.out
           rw [Int.tmod_eq_emod_of_nonneg (by omega)]
           by_cases h3 : k + 1 = i
           ·exact ⟨0, by rw [show ((k : Int) + 1) = (i : Int) by omega, Int.emod_self]; rfl, by omega, by omega⟩
           ·exact ⟨k + 1, by rw [Int.emod_eq_of_lt (by omega) (by omega)]; simp, by omega, by omega⟩
          have HK2 := am hk2N
          have hck : (gz nz' k).1.ck = wn := by
           have h1 := HD4.out.c
           rw [HPO.out.1, HPO.out.2.1] at h1
           rw [HWN.out]; exact h1
          have KC1 := am (net_Clock p OK.out nb' (r + 1) nz' _ _ k (by rw [HPO.out.2.2.1]; exact hkN.out) wc (HI4.out.below HWE.out))
          rw [hck] at KC1
          have hck2 := (HD4.out.o k2 HK2.out.2).2
          have hk2p : k2 < p.N := by rw [HPO.out.2.2.1]; exact HK2.out.1
          have HI5 := am (HI4.out.below HWE.out)
          have KC2 := am (net_Clock_val p OK.out nb' (r + 1) nz' _ _ k2 hk2p 0 hck2 wc HI5.out)
          clear hck2 hk2p
          have cc := cells6 (blk_below HG4.out HWE.out)
          have ss := cells11 (blk_below HS4.out HWE.out)
          have hkn := HPO.out.2.1
          have hk12 : k ≤ 12 := by have := hkN.out; have := hNQ.out; omega
          have hi0 : ¬ (i : Int) = 0 := by have := hNQ.out; omega
          have hi1 : ((i : Int) == 0) = false := beq_eq_false_iff_ne.2 hi0
          have hCi := hNQ.out.1
          rw [hCi] at cc
          have HBW5 := am (b_tr HBW4.out HWE.out)
          clear hk2N hck hCi hkn HI4 HBW4
          go_wp2_with (go_at_call 25; first
           | (with_reducible refine Calls.mono KC1.out ?_; rintro e W21 ⟨rfl, hb⟩; have HB21 := am hb; have cc := cells6 (blk_below (blk_below HG4.out HWE.out) hb); rw [show C.n = (i : Int) from hNQ.out.1] at cc; clear hb)
           | (with_reducible refine Calls.mono (KC2.out _ HB21.out) ?_; rintro e W22 ⟨rfl, hb⟩; have HB22 := am (b_tr HB21.out hb); clear hb))
          go_roundw
          case rel =>
           have hni := HI5.out.below HB22.out
           rw [show ((r : Int) + 1) = ((r + 1 : Nat) : Int) by simp] at hni
           exact ⟨r + 1, by simp, hlt9.out, by rw [HWN.out], ⟨b_tr HBW5.out HB22.out⟩, ⟨nb', nz', (slotsZ p r nz).2, (hostsZ p r nz).2, hni, HFS4.out, HD4.out⟩⟩
          case measure => have := hlt9.out; simp [intOf]; omega
       ·obtain rfl : r = Rn := by omega
        have q1 := eq_false (show ¬ ((r : Int) < (r : Int)) by omega)
        have hbw := am (show Below w.heap.size w w14 from bw.out)
        clear hNI hfs hdr hP hlt hr
        go_wp2
        go_ret
        exact ⟨rfl, b_tr hbw.out HBW.out⟩
end Go.Proofs.YtgcgglmmfgmaoaaGreat.PK
end
