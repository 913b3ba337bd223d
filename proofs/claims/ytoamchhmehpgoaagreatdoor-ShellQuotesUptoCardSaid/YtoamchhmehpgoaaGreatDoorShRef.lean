/- The document's quoted words, as lists of bytes. -/
import Derived.Test.YtoamchhmehpgoaaGreatDoorShPure
import Derived.Test.YtoamchhmehpgoaaGreatDoorPSJx7
namespace Go.Proofs.YtoamchhmehpgoaaGreatDoor.PSJ
open Go Go.RowKit Go.Proofs.YtoamchhmehpgoaaGreatDoorW.PrintWords Go.Proofs.YtoamchhmehpgoaaGreatDoorW.PrintLast Go.Proofs.YtoamchhmehpgoaaGreatDoorW.PrintMore
attribute [local go_sem] max2_int min2_int max_two min_two max_three min_three max_four min_four
set_option linter.unusedVariables false
set_option linter.unusedSimpArgs false
theorem hex_eq (k : Nat) (hk : 1 ≤ k) (c : UInt8) : plaitingref18_hex.f k ((c.toNat : Nat) : Int) = some (hexI c.toNat) := by
  obtain ⟨m, rfl⟩ : ∃ m, k = m + 1 := ⟨k - 1, by omega⟩
  have h : ∀ n : Fin 256, (if ((n.val : Nat) : Int) ≥ 48 then (if decide (((n.val : Nat) : Int) ≤ 57) = true then some ((((n.val : Nat) : Int) - 48) % 256) else if ((n.val : Nat) : Int) ≥ 97 then (if ((n.val : Nat) : Int) ≤ 102 then some ((((n.val : Nat) : Int) - 97) % 256 + 10) else some (-1)) else some (-1))
    else (if false = true then some ((((n.val : Nat) : Int) - 48) % 256) else if ((n.val : Nat) : Int) ≥ 97 then (if ((n.val : Nat) : Int) ≤ 102 then some ((((n.val : Nat) : Int) - 97) % 256 + 10) else some (-1)) else some (-1))) = some (hexI n.val) := by decide +kernel
  have h1 := h c.toFin
  unfold plaitingref18_hex.f
  rw [plaitingref18_hex.j0, plaitingref18_hex.j0]
  exact h1
def quoI (i : Int) (acc : List Int) : Option (List Int × Nat) → ByteArray × Int
  | none => (⟨#[]⟩, -1)
  | some (bs, m) => (strOfNums (acc ++ bs), i + m)
set_option maxHeartbeats 1000000 in
theorem rfj2 (l : List UInt8) (i : Nat) (acc : List Int) (hl : l.length ≤ 100000000000) (ha : acc.length ≤ i) (hlt : i < l.length) (c d : UInt8) (r' : List UInt8) (hd : l.drop i = c :: d :: r') (h34 : ¬ c.toNat = 34) (h92 : c.toNat = 92)
    (next : ∀ (b n : Nat), esc (c :: d :: r') = some (b, n) → Ev (fun k => plaitingref18_quoted.l0 k (S l) ((i + n : Nat) : Int) (acc ++ [(b : Int)])) (quoI i acc (quo (c :: d :: r')))) :
    ∀ b : Bool, b = (decide (d.toNat = 92) || decide (d.toNat = 34)) → Ev (fun k => plaitingref18_quoted.j2 k (S l) (i : Int) acc ((d.toNat : Nat) : Int) b) (quoI i acc (quo (c :: d :: r'))) := by
  have hlen : (c :: d :: r').length = l.length - i := by rw [← hd, List.length_drop]
  simp only [List.length_cons] at hlen
  have hd1 : l.drop (i + 1) = d :: r' := by rw [← List.drop_drop, hd]; rfl
  have hb1 := (drop_cons_ hd1).2 _ rfl
  rw [show ((i + 1 : Nat) : Int) = (i : Int) + 1 by omega] at hb1
  have w1 : True → wrap64 ((i : Int) + 1) = (i : Int) + 1 := fun _ => w64 _ (by omega) (by omega)
  have w2 : True → wrap64 ((i : Int) + 2) = (i : Int) + 2 := fun _ => w64 _ (by omega) (by omega)
  have w3 : True → wrap64 ((i : Int) + 3) = (i : Int) + 3 := fun _ => w64 _ (by omega) (by omega)
  have bad : esc (c :: d :: r') = none → quoI i acc (quo (c :: d :: r')) = ((⟨#[]⟩ : ByteArray), -1) := fun he => by rw [quo_bad c (d :: r') h34 he]; rfl
  intro b hbb
  by_cases hq : d.toNat = 92 ∨ d.toNat = 34
  · have hb' : b = true := by rw [hbb]; simpa using hq
    refine Ev.step (next d.toNat 2 (by simp [esc, h92, hq])) fun k => ?_
    rw [hb', plaitingref18_quoted.j2, if_pos rfl, w1 trivial, w2 trivial, if_pos (by omega), if_pos (by rw [S_size]; omega), if_pos (by omega), hb1]
    rfl
  · have hb' : b = false := by rw [hbb]; simpa using hq
    rw [hb']
    by_cases h110 : d.toNat = 110
    · refine Ev.step (next 10 2 (by simp [esc, h92, h110])) fun k => ?_
      rw [plaitingref18_quoted.j2, if_neg (show ¬ (false = true) by decide), if_pos (by omega), w2 trivial, if_pos (by omega)]
      rfl
    · by_cases h116 : d.toNat = 116
      · refine Ev.step (next 9 2 (by simp [esc, h92, h116])) fun k => ?_
        rw [plaitingref18_quoted.j2, if_neg (show ¬ (false = true) by decide), if_neg (by omega), if_pos (by omega), w2 trivial, if_pos (by omega)]
        rfl
      · by_cases h120 : d.toNat = 120
        · have hj3t : Ev (fun k => plaitingref18_quoted.j3 k (S l) (i : Int) acc true) ((⟨#[]⟩ : ByteArray), -1) := Ev.done fun k => by rw [plaitingref18_quoted.j3, if_pos rfl]
          match hr' : r' with
          | [] =>
            rw [bad (by simp [esc, h92, h120, escX])]
            simp only [List.length_nil] at hlen
            refine Ev.step hj3t fun k => ?_
            rw [plaitingref18_quoted.j2, if_neg (show ¬ (false = true) by decide), if_neg (by omega), if_neg (by omega), if_pos (by omega), w3 trivial, if_pos (by rw [S_size]; omega)]
          | [x] =>
            rw [bad (by simp [esc, h92, h120, escX])]
            simp only [List.length_nil, List.length_cons] at hlen
            refine Ev.step hj3t fun k => ?_
            rw [plaitingref18_quoted.j2, if_neg (show ¬ (false = true) by decide), if_neg (by omega), if_neg (by omega), if_pos (by omega), w3 trivial, if_pos (by rw [S_size]; omega)]
          | x :: y :: r'' =>
            simp only [List.length_cons] at hlen
            have hd2 : l.drop (i + 2) = x :: y :: r'' := by rw [show i + 2 = (i + 1) + 1 by omega, ← List.drop_drop, hd1]; rfl
            have hd3 : l.drop (i + 3) = y :: r'' := by rw [show i + 3 = (i + 2) + 1 by omega, ← List.drop_drop, hd2]; rfl
            have hb2 := (drop_cons_ hd2).2 _ rfl
            have hb3 := (drop_cons_ hd3).2 _ rfl
            rw [show ((i + 2 : Nat) : Int) = (i : Int) + 2 by omega] at hb2
            rw [show ((i + 3 : Nat) : Int) = (i : Int) + 3 by omega] at hb3
            have hj2eq : ∀ k, 1 ≤ k → plaitingref18_quoted.j2 (k + 1) (S l) (i : Int) acc ((d.toNat : Nat) : Int) false = (if hexI x.toNat < 0 then plaitingref18_quoted.j3 k (S l) (i : Int) acc true else plaitingref18_quoted.j3 k (S l) (i : Int) acc (decide (hexI y.toNat < 0))) := by
              intro k hk
              rw [plaitingref18_quoted.j2, if_neg (show ¬ (false = true) by decide), if_neg (by omega), if_neg (by omega), if_pos (by omega), w3 trivial, w2 trivial, if_neg (by rw [S_size]; omega), if_pos (by omega), if_pos (by rw [S_size]; omega), hb2, hex_eq k hk, Option.bind_some]
              by_cases hx0 : hexI x.toNat < 0
              · rw [if_pos hx0, if_pos hx0]
              · rw [if_neg hx0, if_neg hx0, if_pos (by omega), if_pos (by rw [S_size]; omega), hb3, hex_eq k hk, Option.bind_some]
            cases hxx : hexd x.toNat with
            | none =>
              rw [bad (by simp [esc, h92, h120, escX, hxx])]
              obtain ⟨K, hK⟩ := hj3t
              refine ⟨K + 2, fun k hk => ?_⟩
              obtain ⟨m, rfl⟩ : ∃ m, k = m + 1 := ⟨k - 1, by omega⟩
              show plaitingref18_quoted.j2 (m + 1) (S l) (i : Int) acc ((d.toNat : Nat) : Int) false = _
              rw [hj2eq m (by omega), hexI_none hxx, if_pos (by decide)]
              exact hK m (by omega)
            | some xv =>
              have hxl := hexd_lt _ _ hxx
              cases hyy : hexd y.toNat with
              | none =>
                rw [bad (by simp [esc, h92, h120, escX, hxx, hyy])]
                obtain ⟨K, hK⟩ := hj3t
                refine ⟨K + 2, fun k hk => ?_⟩
                obtain ⟨m, rfl⟩ : ∃ m, k = m + 1 := ⟨k - 1, by omega⟩
                show plaitingref18_quoted.j2 (m + 1) (S l) (i : Int) acc ((d.toNat : Nat) : Int) false = _
                rw [hj2eq m (by omega), hexI_some hxx, hexI_none hyy, if_neg (by omega)]
                exact hK m (by omega)
              | some yv =>
                have hyl := hexd_lt _ _ hyy
                obtain ⟨K, hK⟩ := next (16 * xv + yv) 4 (by simp [esc, h92, h120, escX, hxx, hyy])
                refine ⟨K + 3, fun k hk => ?_⟩
                obtain ⟨m, rfl⟩ : ∃ m, k = m + 2 := ⟨k - 2, by omega⟩
                show plaitingref18_quoted.j2 (m + 1 + 1) (S l) (i : Int) acc ((d.toNat : Nat) : Int) false = _
                rw [hj2eq (m + 1) (by omega), hexI_some hxx, hexI_some hyy, if_neg (by omega), decide_eq_false (by omega), plaitingref18_quoted.j3, if_neg (show ¬ (false = true) by decide), w2 trivial, w3 trivial, if_pos (by omega), if_pos (by rw [S_size]; omega), hb2, hex_eq m (by omega), Option.bind_some, if_pos (by omega), if_pos (by rw [S_size]; omega), hb3, hex_eq m (by omega), Option.bind_some, if_pos (by omega), hexI_some hxx, hexI_some hyy, w64 (16 * (xv : Int)) (by omega) (by omega), w64 (16 * (xv : Int) + (yv : Int)) (by omega) (by omega), Int.emod_eq_of_lt (by omega) (by omega), w64 ((i : Int) + 2 + 2) (by omega) (by omega)]
                have := hK m (by omega)
                rw [← this]
                show plaitingref18_quoted.l0 m (S l) _ _ = plaitingref18_quoted.l0 m (S l) _ _
                congr 1
        · rw [bad (by simp [esc, h92, h110, h116, h120]; exact not_or.1 hq)]
          refine Ev.done fun k => ?_
          rw [plaitingref18_quoted.j2, if_neg (show ¬ (false = true) by decide), if_neg (by omega), if_neg (by omega), if_neg (by omega)]
set_option maxHeartbeats 1000000 in
theorem rfs (l : List UInt8) (i : Nat) (acc : List Int) (hl : l.length ≤ 100000000000) (ha : acc.length ≤ i) (hi : i ≤ l.length)
    (next : ∀ (c : UInt8) (r : List UInt8) (b n : Nat), l.drop i = c :: r → ¬ c.toNat = 34 → esc (c :: r) = some (b, n) → Ev (fun k => plaitingref18_quoted.l0 k (S l) ((i + n : Nat) : Int) (acc ++ [(b : Int)])) (quoI i acc (quo (c :: r)))) :
    Ev (fun k => plaitingref18_quoted.l0 k (S l) (i : Int) acc) (quoI i acc (quo (l.drop i))) := by
  cases hd : l.drop i with
  | nil =>
    rw [quo_nil]
    have := drop_nil_ hd
    refine Ev.step (g := fun k => plaitingref18_quoted.j1 k (S l) (i : Int) acc false) (Ev.done fun k => ?_) fun k => ?_
    · rw [plaitingref18_quoted.j1, if_neg (by decide), if_pos (by rw [S_size]; omega)]; rfl
    · rw [plaitingref18_quoted.l0, if_neg (by rw [S_size]; omega)]
  | cons c r =>
    obtain ⟨hlt, hb⟩ := drop_cons_ hd
    have hb := hb _ rfl
    have hlen : (c :: r).length = l.length - i := by rw [← hd, List.length_drop]
    refine Ev.step (g := fun k => plaitingref18_quoted.j1 k (S l) (i : Int) acc (((c.toNat : Nat) : Int) != 34)) ?_ fun k => by rw [plaitingref18_quoted.l0, if_pos (by rw [S_size]; omega), if_pos (by omega), hb]
    by_cases h34 : c.toNat = 34
    · rw [quo_end c r h34]
      refine Ev.done fun k => ?_
      rw [plaitingref18_quoted.j1, h34, if_neg (by decide), if_neg (by rw [S_size]; omega), w64 _ (by omega) (by omega)]
      simp [quoI]
    · have hne : (((c.toNat : Nat) : Int) != 34) = true := by rw [bne_iff_ne]; omega
      rw [hne]
      have next := fun b n he => next c r b n hd h34 he
      have bad : esc (c :: r) = none → quoI i acc (quo (c :: r)) = ((⟨#[]⟩ : ByteArray), -1) := fun he => by rw [quo_bad c r h34 he]; rfl
      by_cases h92 : c.toNat = 92
      · cases hr : r with
        | nil =>
          subst hr
          rw [bad (by simp [esc, h92])]
          refine Ev.done fun k => ?_
          simp only [List.length_cons, List.length_nil] at hlen
          rw [plaitingref18_quoted.j1, if_pos rfl, if_pos (by omega), if_pos (by rw [S_size]; omega), hb, if_pos (by omega), w64 _ (by omega) (by omega), if_pos (by rw [S_size]; omega)]
        | cons d r' =>
          subst hr
          simp only [List.length_cons] at hlen
          have hd1 : l.drop (i + 1) = d :: r' := by rw [← List.drop_drop, hd]; rfl
          have hb1 := (drop_cons_ hd1).2 _ rfl
          rw [show ((i + 1 : Nat) : Int) = (i : Int) + 1 by omega] at hb1
          have w1 : True → wrap64 ((i : Int) + 1) = (i : Int) + 1 := fun _ => w64 _ (by omega) (by omega)
          have w2 : True → wrap64 ((i : Int) + 2) = (i : Int) + 2 := fun _ => w64 _ (by omega) (by omega)
          have w3 : True → wrap64 ((i : Int) + 3) = (i : Int) + 3 := fun _ => w64 _ (by omega) (by omega)
          have hj2 := rfj2 l i acc hl ha hlt c d r' hd h34 h92 next
          by_cases hd92 : d.toNat = 92
          · refine Ev.step (hj2 true (by simp [hd92])) fun k => ?_
            rw [plaitingref18_quoted.j1, if_pos rfl, if_pos (by omega), if_pos (by rw [S_size]; omega), hb, if_pos (by omega), w1 trivial, if_neg (by rw [S_size]; omega), if_pos (by omega), if_pos (by rw [S_size]; omega), hb1, if_pos (by omega), beq_iff_eq.2 (show ((d.toNat : Nat) : Int) = 92 by omega)]
          · refine Ev.step (hj2 (((d.toNat : Nat) : Int) == 34) (by
              rw [decide_eq_false hd92, Bool.false_or]
              by_cases h : d.toNat = 34
              · rw [decide_eq_true h]; exact beq_iff_eq.2 (by omega)
              · rw [decide_eq_false h]; exact beq_eq_false_iff_ne.2 (by omega))) fun k => ?_
            rw [plaitingref18_quoted.j1, if_pos rfl, if_pos (by omega), if_pos (by rw [S_size]; omega), hb, if_pos (by omega), w1 trivial, if_neg (by rw [S_size]; omega), if_pos (by omega), if_pos (by rw [S_size]; omega), hb1, if_neg (by omega)]
      · have hesc : esc (c :: r) = some (c.toNat, 1) := by cases r <;> simp [esc, h92]
        refine Ev.step (next c.toNat 1 hesc) fun k => ?_
        rw [plaitingref18_quoted.j1, if_pos rfl, if_pos (by omega), if_pos (by rw [S_size]; omega), hb, if_neg (by omega), if_pos (by omega), w64 _ (by omega) (by omega)]
        rfl
theorem rfq (l : List UInt8) (hl : l.length ≤ 100000000000) (N : Nat) : ∀ (i : Nat) (acc : List Int), l.length ≤ N + i → acc.length ≤ i → i ≤ l.length → Ev (fun k => plaitingref18_quoted.l0 k (S l) (i : Int) acc) (quoI i acc (quo (l.drop i))) := by
  induction N with
  | zero =>
    intro i acc hN ha hi
    refine rfs l i acc hl ha hi fun c r b n hd _ _ => ?_
    have := (drop_cons_ hd).1
    omega
  | succ N ih =>
    intro i acc hN ha hi
    refine rfs l i acc hl ha hi fun c r b n hd h34 he => ?_
    have hn := esc_len _ _ _ he
    have hlen : (c :: r).length = l.length - i := by rw [← hd, List.length_drop]
    rw [hlen] at hn
    have ih := ih (i + n) (acc ++ [(b : Int)]) (by omega) (by simp; omega) (by omega)
    rw [quo_more c r h34 b n he, ← hd, List.drop_drop]
    revert ih
    cases quo (l.drop (i + n)) with
    | none => exact id
    | some y =>
      obtain ⟨ys, q⟩ := y
      intro ih
      have e : quoI ((i + n : Nat) : Int) (acc ++ [(b : Int)]) (some (ys, q)) = quoI i acc (some ((b : Int) :: ys, n + q)) := by
        simp [quoI]; omega
      rw [e] at ih
      exact ih
end Go.Proofs.YtoamchhmehpgoaaGreatDoor.PSJ
