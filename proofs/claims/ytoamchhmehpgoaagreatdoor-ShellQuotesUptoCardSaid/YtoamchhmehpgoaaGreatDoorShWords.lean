/- The words of a line, as both tell them. -/
import Derived.Test.YtoamchhmehpgoaaGreatDoorShRef
import Derived.Test.YtoamchhmehpgoaaGreatDoorPSJx5
import Derived.Test.YtoamchhmehpgoaaGreatDoorPSJx8
namespace Go.Proofs.YtoamchhmehpgoaaGreatDoor.PSJ
open Go Go.RowKit Go.Proofs.YtoamchhmehpgoaaGreatDoorW.PrintWords Go.Proofs.YtoamchhmehpgoaaGreatDoorW.PrintLast Go.Proofs.YtoamchhmehpgoaaGreatDoorW.PrintMore
attribute [local go_sem] max2_int min2_int max_two min_two max_three min_three max_four min_four
set_option linter.unusedVariables false
set_option linter.unusedSimpArgs false
theorem rfquoted (l : List UInt8) (i : Nat) (hl : l.length ≤ 100000000000) (hi : i < l.length) : Ev (fun k => plaitingref18_quoted.f k (S l) (i : Int)) (quoI (i + 1 : Nat) [] (quo (l.drop (i + 1)))) := by
  have := rfq l hl l.length (i + 1) [] (by omega) (by simp) (by omega)
  have e : wrap64 ((i : Int) + 1) = ((i + 1 : Nat) : Int) := by rw [w64 _ (by omega) (by omega)]; omega
  simpa [plaitingref18_quoted.f, e] using this
def blank (c : UInt8) : Bool := c.toNat == 32 || c.toNat == 9
/-- How far a bare word goes; none: a quote stands in it. -/
def bare : List UInt8 → Option Nat
  | [] => some 0
  | c :: r => if blank c then some 0 else if c.toNat = 34 then none else (bare r).map (· + 1)
def ends : List UInt8 → Bool
  | [] => true
  | d :: _ => blank d
theorem bare_len : ∀ (l : List UInt8) (n : Nat), bare l = some n → n ≤ l.length
  | [], n, h => by cases h; simp
  | c :: r, n, h => by
    simp only [bare] at h
    by_cases h1 : blank c = true
    · rw [if_pos h1] at h; cases h; simp
    · rw [if_neg h1] at h
      by_cases h2 : c.toNat = 34
      · rw [if_pos h2] at h; cases h
      · rw [if_neg h2] at h
        cases hb : bare r with
        | none => rw [hb] at h; cases h
        | some k =>
          rw [hb] at h
          have := bare_len r k hb
          cases h
          simp only [List.length_cons]; omega
/-- A line's words. -/
def wordsL (l : List UInt8) : Option (List ByteArray) := match l with
  | [] => some []
  | c :: r => if blank c then wordsL r else if c.toNat = 35 then some [] else if c.toNat = 34 then (match quo r with
      | none => none
      | some (bs, m) => if ends (r.drop m) then (match wordsL (r.drop m) with
        | none => none
        | some ws => some (strOfNums bs :: ws)) else none)
    else (match bare r with
      | none => none
      | some n => (match wordsL (r.drop n) with
        | none => none
        | some ws => some (S (c :: r.take n) :: ws)))
termination_by l.length
decreasing_by
  all_goals simp only [List.length_drop, List.length_cons]
  all_goals omega
theorem wordsL_nil : wordsL [] = some [] := by rw [wordsL]
theorem wordsL_blank (c : UInt8) (r : List UInt8) (h : blank c = true) : wordsL (c :: r) = wordsL r := by rw [wordsL, if_pos h]
theorem wordsL_hash (c : UInt8) (r : List UInt8) (h : c.toNat = 35) : wordsL (c :: r) = some [] := by
  rw [wordsL, if_neg (by simp [blank, h]), if_pos h]
theorem wordsL_quote (c : UInt8) (r : List UInt8) (h : c.toNat = 34) : wordsL (c :: r) = (match quo r with
      | none => none
      | some (bs, m) => if ends (r.drop m) then (match wordsL (r.drop m) with
        | none => none
        | some ws => some (strOfNums bs :: ws)) else none) := by
  rw [wordsL, if_neg (by simp [blank, h]), if_neg (by omega), if_pos h]
theorem wordsL_bare (c : UInt8) (r : List UInt8) (h1 : ¬ blank c = true) (h2 : ¬ c.toNat = 35) (h3 : ¬ c.toNat = 34) : wordsL (c :: r) = (match bare r with
      | none => none
      | some n => (match wordsL (r.drop n) with
        | none => none
        | some ws => some (S (c :: r.take n) :: ws))) := by
  rw [wordsL, if_neg h1, if_neg h2, if_neg h3]
def wordsR (acc : List ByteArray) : Option (List ByteArray) → List ByteArray × Int
  | none => ([], 9)
  | some ws => (acc ++ ws, 0)
theorem blank_iff (c : UInt8) : blank c = true ↔ (c.toNat = 32 ∨ c.toNat = 9) := by simp [blank]
/-- A bare word's end, as the program's inner loop finds it. -/
theorem sh_bare (l : List UInt8) (hl : l.length ≤ 100000000000) (R : List ByteArray × Int) (acc : List ByteArray) (from_ : Nat) (hacc : acc.length ≤ 1000000000000) :
    ∀ (N i : Nat), l.length ≤ N + i → i ≤ l.length → from_ ≤ i →
      (match bare (l.drop i) with
      | none => R = ([], 9)
      | some n => Ev (fun k => shell_Words.l0 k (S l) (acc ++ [S ((l.drop from_).take (i + n - from_))]) ((i + n : Nat) : Int)) R) →
      Ev (fun k => shell_Words.l1 k (S l) acc (i : Int) (from_ : Int)) R := by
  have stop : ∀ i : Nat, i ≤ l.length → from_ ≤ i → Ev (fun k => shell_Words.l0 k (S l) (acc ++ [S ((l.drop from_).take (i + 0 - from_))]) ((i + 0 : Nat) : Int)) R → Ev (fun k => shell_Words.j3 k (S l) acc (i : Int) (from_ : Int) false) R := by
    intro i hi hf h
    refine Ev.step h fun k => ?_
    rw [shell_Words.j3, if_neg (by decide), if_pos (by omega), if_pos (by omega), if_pos (by rw [S_size]; omega), if_pos (by omega), S_extract]
    simp only [Int.toNat_natCast, Nat.add_zero]
  intro N
  induction N with
  | zero =>
    intro i hN hi hf h
    have hd : l.drop i = [] := List.drop_eq_nil_of_le (by omega)
    rw [hd] at h
    refine Ev.step (stop i hi hf h) fun k => ?_
    rw [shell_Words.l1, if_neg (by rw [S_size]; omega)]
  | succ N ih =>
    intro i hN hi hf h
    cases hd : l.drop i with
    | nil =>
      rw [hd] at h
      refine Ev.step (stop i hi hf h) fun k => ?_
      have := drop_nil_ hd
      rw [shell_Words.l1, if_neg (by rw [S_size]; omega)]
    | cons c r =>
      obtain ⟨hlt, hb⟩ := drop_cons_ hd
      have hb := hb _ rfl
      rw [hd] at h
      simp only [bare] at h
      have hr : l.drop (i + 1) = r := by rw [← List.drop_drop, hd]; rfl
      by_cases hc : blank c = true
      · rw [if_pos hc] at h
        refine Ev.step (stop i hi hf h) fun k => ?_
        rw [shell_Words.l1, if_pos (by rw [S_size]; omega), if_pos (by omega), hb]
        rcases (blank_iff c).1 hc with h1 | h1
        · rw [if_pos (by omega)]
        · rw [if_neg (by omega), h1]; rfl
      · rw [if_neg hc] at h
        have hc' : ¬ (c.toNat = 32 ∨ c.toNat = 9) := fun x => hc ((blank_iff c).2 x)
        refine Ev.step (g := fun k => shell_Words.j3 k (S l) acc (i : Int) (from_ : Int) true) ?_ fun k => by
          rw [shell_Words.l1, if_pos (by rw [S_size]; omega), if_pos (by omega), hb, if_neg (by omega), bne_iff_ne.2 (show ((c.toNat : Nat) : Int) ≠ 9 by omega)]
        by_cases h34 : c.toNat = 34
        · rw [if_pos h34] at h
          subst h
          refine Ev.done fun k => ?_
          rw [shell_Words.j3, if_pos rfl, if_pos (by omega), if_pos (by rw [S_size]; omega), hb, if_pos (by omega)]
        · rw [if_neg h34] at h
          refine Ev.step (ih (i + 1) (by omega) (by omega) (by omega) ?_) fun k => ?_
          · rw [hr]
            cases hbr : bare r with
            | none => rw [hbr] at h; exact h
            | some n =>
              rw [hbr] at h
              have e : i + (n + 1) = i + 1 + n := by omega
              simp only [Option.map_some, e] at h
              exact h
          · rw [shell_Words.j3, if_pos rfl, if_pos (by omega), if_pos (by rw [S_size]; omega), hb, if_neg (by omega), w64 _ (by omega) (by omega)]
            rfl
/-- The same for the document's. -/
theorem rf_bare (l : List UInt8) (hl : l.length ≤ 100000000000) (R : List ByteArray × Int) (acc : List ByteArray) (from_ : Nat) (hacc : acc.length ≤ 1000000000000) :
    ∀ (N i : Nat), l.length ≤ N + i → i ≤ l.length → from_ ≤ i →
      (match bare (l.drop i) with
      | none => R = ([], 9)
      | some n => Ev (fun k => plaitingref18_Words.l0 k (S l) (acc ++ [S ((l.drop from_).take (i + n - from_))]) ((i + n : Nat) : Int)) R) →
      Ev (fun k => plaitingref18_Words.l2 k (S l) acc (i : Int) (from_ : Int)) R := by
  have stop : ∀ i : Nat, i ≤ l.length → from_ ≤ i → Ev (fun k => plaitingref18_Words.l0 k (S l) (acc ++ [S ((l.drop from_).take (i + 0 - from_))]) ((i + 0 : Nat) : Int)) R → Ev (fun k => plaitingref18_Words.j5 k (S l) acc (i : Int) (from_ : Int) false) R := by
    intro i hi hf h
    refine Ev.step h fun k => ?_
    rw [plaitingref18_Words.j5, if_neg (by decide), if_pos (by omega), if_pos (by omega), if_pos (by rw [S_size]; omega), if_pos (by omega), S_extract]
    simp only [Int.toNat_natCast, Nat.add_zero]
  intro N
  induction N with
  | zero =>
    intro i hN hi hf h
    have hd : l.drop i = [] := List.drop_eq_nil_of_le (by omega)
    rw [hd] at h
    refine Ev.step (stop i hi hf h) fun k => ?_
    rw [plaitingref18_Words.l2, if_neg (by rw [S_size]; omega)]
  | succ N ih =>
    intro i hN hi hf h
    cases hd : l.drop i with
    | nil =>
      rw [hd] at h
      refine Ev.step (stop i hi hf h) fun k => ?_
      have := drop_nil_ hd
      rw [plaitingref18_Words.l2, if_neg (by rw [S_size]; omega)]
    | cons c r =>
      obtain ⟨hlt, hb⟩ := drop_cons_ hd
      have hb := hb _ rfl
      rw [hd] at h
      simp only [bare] at h
      have hr : l.drop (i + 1) = r := by rw [← List.drop_drop, hd]; rfl
      by_cases hc : blank c = true
      · rw [if_pos hc] at h
        refine Ev.step (stop i hi hf h) fun k => ?_
        rw [plaitingref18_Words.l2, if_pos (by rw [S_size]; omega), if_pos (by omega), hb]
        rcases (blank_iff c).1 hc with h1 | h1
        · rw [if_pos (by omega)]
        · rw [if_neg (by omega), h1]; rfl
      · rw [if_neg hc] at h
        have hc' : ¬ (c.toNat = 32 ∨ c.toNat = 9) := fun x => hc ((blank_iff c).2 x)
        refine Ev.step (g := fun k => plaitingref18_Words.j5 k (S l) acc (i : Int) (from_ : Int) true) ?_ fun k => by
          rw [plaitingref18_Words.l2, if_pos (by rw [S_size]; omega), if_pos (by omega), hb, if_neg (by omega), bne_iff_ne.2 (show ((c.toNat : Nat) : Int) ≠ 9 by omega)]
        by_cases h34 : c.toNat = 34
        · rw [if_pos h34] at h
          subst h
          refine Ev.done fun k => ?_
          rw [plaitingref18_Words.j5, if_pos rfl, if_pos (by omega), if_pos (by rw [S_size]; omega), hb, if_pos (by omega)]
        · rw [if_neg h34] at h
          refine Ev.step (ih (i + 1) (by omega) (by omega) (by omega) ?_) fun k => ?_
          · rw [hr]
            cases hbr : bare r with
            | none => rw [hbr] at h; exact h
            | some n =>
              rw [hbr] at h
              have e : i + (n + 1) = i + 1 + n := by omega
              simp only [Option.map_some, e] at h
              exact h
          · rw [plaitingref18_Words.j5, if_pos rfl, if_pos (by omega), if_pos (by rw [S_size]; omega), hb, if_neg (by omega), w64 _ (by omega) (by omega)]
            rfl
theorem hc_ne9 {c : UInt8} (h : ¬ c.toNat = 9) : (((c.toNat : Nat) : Int) == 9) = false := beq_eq_false_iff_ne.2 (by omega)
theorem hc_ne35 {c : UInt8} (h : ¬ c.toNat = 35) : (((c.toNat : Nat) : Int) == 35) = false := beq_eq_false_iff_ne.2 (by omega)
theorem drop_len {l : List UInt8} {i : Nat} {c : UInt8} {r : List UInt8} (h : l.drop i = c :: r) : r.length = l.length - i - 1 := by
  have := congrArg List.length h
  rw [List.length_drop, List.length_cons] at this
  omega
theorem sh_words (l : List UInt8) (hl : l.length ≤ 100000000000) (N : Nat) : ∀ (i : Nat) (acc : List ByteArray), l.length ≤ N + i → i ≤ l.length → acc.length ≤ i →
    Ev (fun k => shell_Words.l0 k (S l) acc (i : Int)) (wordsR acc (wordsL (l.drop i))) := by
  induction N with
  | zero =>
    intro i acc hN hi ha
    have hd : l.drop i = [] := List.drop_eq_nil_of_le (by omega)
    rw [hd, wordsL_nil]
    refine Ev.done fun k => ?_
    rw [shell_Words.l0, if_neg (by rw [S_size]; omega)]; simp [wordsR]
  | succ N ih =>
    intro i acc hN hi ha
    cases hd : l.drop i with
    | nil =>
      rw [wordsL_nil]
      have := drop_nil_ hd
      refine Ev.done fun k => ?_
      rw [shell_Words.l0, if_neg (by rw [S_size]; omega)]; simp [wordsR]
    | cons c r =>
      obtain ⟨hlt, hb⟩ := drop_cons_ hd
      have hb := hb _ rfl
      have hr : l.drop (i + 1) = r := by rw [← List.drop_drop, hd]; rfl
      have hrl := drop_len hd
      by_cases hc : blank c = true
      · rw [wordsL_blank c r hc]
        have := ih (i + 1) acc (by omega) (by omega) (by omega)
        rw [hr] at this
        refine Ev.step (g := fun k => shell_Words.j1 k (S l) acc (i : Int) true) (Ev.step this fun k => ?_) fun k => ?_
        · rw [shell_Words.j1, if_pos rfl, w64 _ (by omega) (by omega)]; rfl
        · rw [shell_Words.l0, if_pos (by rw [S_size]; omega), if_pos (by omega), hb]
          rcases (blank_iff c).1 hc with h1 | h1
          · rw [if_pos (by omega)]
          · rw [if_neg (by omega), h1]; rfl
      · have hc' : ¬ (c.toNat = 32 ∨ c.toNat = 9) := fun x => hc ((blank_iff c).2 x)
        refine Ev.step (g := fun k => shell_Words.j1 k (S l) acc (i : Int) false) ?_ fun k => by
          rw [shell_Words.l0, if_pos (by rw [S_size]; omega), if_pos (by omega), hb, if_neg (by omega), hc_ne9 (by omega)]
        by_cases h35 : c.toNat = 35
        · rw [wordsL_hash c r h35]
          refine Ev.done fun k => ?_
          rw [shell_Words.j1, if_neg (by decide), if_pos (by omega), if_pos (by rw [S_size]; omega), hb, if_pos (by omega)]
          simp [wordsR]
        · by_cases h34 : c.toNat = 34
          · rw [wordsL_quote c r h34]
            have w1 : True → wrap64 ((i : Int) + 1) = (i : Int) + 1 := fun _ => w64 _ (by omega) (by omega)
            have hx : (S l).extract ((i : Int) + 1).toNat (S l).size = S r := by
              rw [S_extract, S_size, show ((i : Int) + 1).toNat = i + 1 by omega, hr, List.take_of_length_le (by omega)]
            have hq := shquoted r (by omega)
            have hcom : ∀ k, shell_Words.j1 (k + 1) (S l) acc (i : Int) false = (shell_quoted.f k (S r)).bind fun bt108 => (if bt108.2.2 = true then (if (wrap64 ((i : Int) + (wrap64 (1 + bt108.2.1)))) < ((S l).size : Int) then (if 0 ≤ (wrap64 ((i : Int) + (wrap64 (1 + bt108.2.1)))) then (if (bt (S l) (wrap64 ((i : Int) + (wrap64 (1 + bt108.2.1))))) = 32 then (if acc.length < 8796093022208 then (shell_Words.l0 k (S l) (acc ++ [bt108.1]) (wrap64 ((i : Int) + (wrap64 (1 + bt108.2.1))))) else (none)) else (if (bt (S l) (wrap64 ((i : Int) + (wrap64 (1 + bt108.2.1))))) = 9 then (if acc.length < 8796093022208 then (shell_Words.l0 k (S l) (acc ++ [bt108.1]) (wrap64 ((i : Int) + (wrap64 (1 + bt108.2.1))))) else (none)) else (some (([] : List ByteArray), 9)))) else (none)) else (if acc.length < 8796093022208 then (shell_Words.l0 k (S l) (acc ++ [bt108.1]) (wrap64 ((i : Int) + (wrap64 (1 + bt108.2.1))))) else (none))) else (some (([] : List ByteArray), 9))) := by
              intro k
              rw [shell_Words.j1, if_neg (by decide), if_pos (by omega), if_pos (by rw [S_size]; omega), hb, if_neg (by omega), if_pos (by omega), w1 trivial, if_pos (by omega), if_pos (by rw [S_size]; omega), hx]
            cases hqq : quo r with
            | none =>
              rw [hqq] at hq
              refine Ev.step (Ev.bind hq ?_) hcom
              refine ⟨0, fun k _ => ?_⟩
              simp [quoR, wordsR]
            | some y =>
              obtain ⟨bs, m⟩ := y
              rw [hqq] at hq
              have hm := quo_len r.length r bs m (Nat.le_refl _) hqq
              have hdm : l.drop (i + 1 + m) = r.drop m := by rw [← List.drop_drop, hr]
              have e1 : True → wrap64 (1 + (0 + (m : Int))) = 1 + (m : Int) := fun _ => by rw [w64 _ (by omega) (by omega)]; omega
              have e2 : True → wrap64 ((i : Int) + (1 + (m : Int))) = ((i + 1 + m : Nat) : Int) := fun _ => by rw [w64 _ (by omega) (by omega)]; omega
              refine Ev.step (Ev.bind hq ?_) hcom
              show Ev (fun k => if (quoR 0 [] (some (bs, m))).2.2 = true then _ else _) _
              simp only [quoR, if_true, e1 trivial, e2 trivial, List.nil_append]
              have go := ih (i + 1 + m) (acc ++ [strOfNums bs]) (by omega) (by omega) (by simp; omega)
              rw [hdm] at go
              have fin : ∀ ws, wordsR (acc ++ [strOfNums bs]) ws = wordsR acc (match ws with
                  | none => none
                  | some ws => some (strOfNums bs :: ws)) := by
                intro ws; cases ws <;> simp [wordsR]
              rw [fin] at go
              cases hdd : r.drop m with
              | nil =>
                rw [hdd] at go hdm
                have := drop_nil_ hdm
                rw [if_pos (show ends [] = true from rfl)]
                refine Ev.of go fun k _ => ?_
                rw [if_neg (by rw [S_size]; omega), if_pos (by omega)]
              | cons d q =>
                rw [hdd] at go hdm
                obtain ⟨hlt2, hb2⟩ := drop_cons_ hdm
                have hb2 := hb2 _ rfl
                by_cases hdb : blank d = true
                · rw [if_pos (show ends (d :: q) = true from hdb)]
                  refine Ev.of go fun k _ => ?_
                  rw [if_pos (by rw [S_size]; omega), if_pos (by omega), hb2]
                  rcases (blank_iff d).1 hdb with h1 | h1
                  · rw [if_pos (by omega), if_pos (by omega)]
                  · rw [if_neg (by omega), if_pos (by omega), if_pos (by omega)]
                · rw [if_neg (show ¬ ends (d :: q) = true from hdb)]
                  have hdb' : ¬ (d.toNat = 32 ∨ d.toNat = 9) := fun x => hdb ((blank_iff d).2 x)
                  refine ⟨0, fun k _ => ?_⟩
                  show (if _ then _ else _) = _
                  rw [if_pos (by rw [S_size]; omega), if_pos (by omega), hb2, if_neg (by omega), if_neg (by omega)]
                  rfl
          · rw [wordsL_bare c r hc h35 h34]
            refine Ev.step (sh_bare l hl _ acc i (by omega) (l.length - i) i (by omega) hi (Nat.le_refl _) ?_) fun k => by
              rw [shell_Words.j1, if_neg (by decide), if_pos (by omega), if_pos (by rw [S_size]; omega), hb, if_neg (by omega), if_neg (by omega)]
            rw [hd]
            simp only [bare, if_neg hc, if_neg h34]
            cases hbr : bare r with
            | none => rfl
            | some n =>
              have hn := bare_len r n hbr
              simp only [Option.map_some]
              have go := ih (i + (n + 1)) (acc ++ [S ((l.drop i).take (i + (n + 1) - i))]) (by omega) (by omega) (by simp; omega)
              rw [show i + (n + 1) = i + 1 + n by omega, ← List.drop_drop, hr] at go
              rw [show i + (n + 1) = i + 1 + n by omega, ← hd]
              have e : (l.drop i).take (i + 1 + n - i) = c :: r.take n := by rw [hd, show i + 1 + n - i = n + 1 by omega]; rfl
              rw [e] at go ⊢
              have fin : ∀ ws, wordsR (acc ++ [S (c :: r.take n)]) ws = wordsR acc (match ws with
                  | none => none
                  | some ws => some (S (c :: r.take n) :: ws)) := by
                intro ws; cases ws <;> simp [wordsR]
              rw [fin] at go
              exact go
theorem rf_words (l : List UInt8) (hl : l.length ≤ 100000000000) (N : Nat) : ∀ (i : Nat) (acc : List ByteArray), l.length ≤ N + i → i ≤ l.length → acc.length ≤ i →
    Ev (fun k => plaitingref18_Words.l0 k (S l) acc (i : Int)) (wordsR acc (wordsL (l.drop i))) := by
  have stop : ∀ (i : Nat) (acc : List ByteArray), l.length ≤ i → Ev (fun k => plaitingref18_Words.l1 k (S l) acc (i : Int)) (wordsR acc (wordsL [])) := by
    intro i acc h
    rw [wordsL_nil]
    refine Ev.step (g := fun k => plaitingref18_Words.j2 k (S l) acc (i : Int)) (Ev.step (g := fun k => plaitingref18_Words.j3 k (S l) acc (i : Int) true) (Ev.done fun k => ?_) fun k => ?_) fun k => ?_
    · rw [plaitingref18_Words.j3, if_pos rfl]; simp [wordsR]
    · rw [plaitingref18_Words.j2, if_pos (by rw [S_size]; omega)]
    · rw [plaitingref18_Words.l1, if_neg (by rw [S_size]; omega)]
  suffices H : ∀ (i : Nat) (acc : List ByteArray), l.length ≤ N + i → i ≤ l.length → acc.length ≤ i → Ev (fun k => plaitingref18_Words.l1 k (S l) acc (i : Int)) (wordsR acc (wordsL (l.drop i))) by
    intro i acc a b c
    exact Ev.step (H i acc a b c) fun k => by rw [plaitingref18_Words.l0]
  induction N with
  | zero =>
    intro i acc hN hi ha
    have hd : l.drop i = [] := List.drop_eq_nil_of_le (by omega)
    rw [hd]
    exact stop i acc (by omega)
  | succ N ih =>
    intro i acc hN hi ha
    cases hd : l.drop i with
    | nil => exact stop i acc (drop_nil_ hd)
    | cons c r =>
      obtain ⟨hlt, hb⟩ := drop_cons_ hd
      have hb := hb _ rfl
      have hr : l.drop (i + 1) = r := by rw [← List.drop_drop, hd]; rfl
      have hrl := drop_len hd
      by_cases hc : blank c = true
      · rw [wordsL_blank c r hc]
        have := ih (i + 1) acc (by omega) (by omega) (by omega)
        rw [hr] at this
        refine Ev.step this fun k => ?_
        have w1 : True → wrap64 ((i : Int) + 1) = ((i + 1 : Nat) : Int) := fun _ => by rw [w64 _ (by omega) (by omega)]; omega
        rw [plaitingref18_Words.l1, if_pos (by rw [S_size]; omega), if_pos (by omega), hb, w1 trivial]
        rcases (blank_iff c).1 hc with h1 | h1
        · rw [if_pos (by omega)]
        · rw [if_neg (by omega), if_pos (by omega)]
      · have hc' : ¬ (c.toNat = 32 ∨ c.toNat = 9) := fun x => hc ((blank_iff c).2 x)
        refine Ev.step (g := fun k => plaitingref18_Words.j2 k (S l) acc (i : Int)) ?_ fun k => by
          rw [plaitingref18_Words.l1, if_pos (by rw [S_size]; omega), if_pos (by omega), hb, if_neg (by omega), if_neg (by omega)]
        by_cases h35 : c.toNat = 35
        · rw [wordsL_hash c r h35]
          refine Ev.step (g := fun k => plaitingref18_Words.j3 k (S l) acc (i : Int) true) (Ev.done fun k => ?_) fun k => ?_
          · rw [plaitingref18_Words.j3, if_pos rfl]; simp [wordsR]
          · rw [plaitingref18_Words.j2, if_neg (by rw [S_size]; omega), if_pos (by omega), if_pos (by rw [S_size]; omega), hb, h35]; rfl
        · refine Ev.step (g := fun k => plaitingref18_Words.j3 k (S l) acc (i : Int) false) ?_ fun k => by
            rw [plaitingref18_Words.j2, if_neg (by rw [S_size]; omega), if_pos (by omega), if_pos (by rw [S_size]; omega), hb, hc_ne35 h35]
          by_cases h34 : c.toNat = 34
          · rw [wordsL_quote c r h34]
            have hq := rfquoted l i hl hlt
            rw [hr] at hq
            have hcom : ∀ k, plaitingref18_Words.j3 (k + 1) (S l) acc (i : Int) false = (plaitingref18_quoted.f k (S l) (i : Int)).bind fun bt142 => (if bt142.2 < 0 then (some (([] : List ByteArray), 9)) else (if bt142.2 < ((S l).size : Int) then (if 0 ≤ bt142.2 then (if (bt (S l) bt142.2) = 32 then (if acc.length < 8796093022208 then (plaitingref18_Words.l0 k (S l) (acc ++ [bt142.1]) bt142.2) else (none)) else (if (bt (S l) bt142.2) = 9 then (if acc.length < 8796093022208 then (plaitingref18_Words.l0 k (S l) (acc ++ [bt142.1]) bt142.2) else (none)) else (some (([] : List ByteArray), 9)))) else (none)) else (if acc.length < 8796093022208 then (plaitingref18_Words.l0 k (S l) (acc ++ [bt142.1]) bt142.2) else (none)))) := by
              intro k
              rw [plaitingref18_Words.j3, if_neg (by decide), if_pos (by omega), if_pos (by rw [S_size]; omega), hb, if_pos (by omega)]
            cases hqq : quo r with
            | none =>
              rw [hqq] at hq
              refine Ev.step (Ev.bind hq ?_) hcom
              refine ⟨0, fun k _ => ?_⟩
              simp [quoI, wordsR]
            | some y =>
              obtain ⟨bs, m⟩ := y
              rw [hqq] at hq
              have hm := quo_len r.length r bs m (Nat.le_refl _) hqq
              have hdm : l.drop (i + 1 + m) = r.drop m := by rw [← List.drop_drop, hr]
              refine Ev.step (Ev.bind hq ?_) hcom
              have e2 : ((i + 1 : Nat) : Int) + (m : Int) = ((i + 1 + m : Nat) : Int) := by omega
              simp only [quoI, e2, List.nil_append]
              have go := Ev.step (f := fun k => plaitingref18_Words.l0 k (S l) (acc ++ [strOfNums bs]) ((i + 1 + m : Nat) : Int)) (ih (i + 1 + m) (acc ++ [strOfNums bs]) (by omega) (by omega) (by simp; omega)) fun k => by rw [plaitingref18_Words.l0]
              rw [hdm] at go
              have fin : ∀ ws, wordsR (acc ++ [strOfNums bs]) ws = wordsR acc (match ws with
                  | none => none
                  | some ws => some (strOfNums bs :: ws)) := by
                intro ws; cases ws <;> simp [wordsR]
              rw [fin] at go
              cases hdd : r.drop m with
              | nil =>
                rw [hdd] at go hdm
                have := drop_nil_ hdm
                rw [if_pos (show ends [] = true from rfl)]
                refine Ev.of go fun k _ => ?_
                rw [if_neg (by omega), if_neg (by rw [S_size]; omega), if_pos (by omega)]
              | cons d q =>
                rw [hdd] at go hdm
                obtain ⟨hlt2, hb2⟩ := drop_cons_ hdm
                have hb2 := hb2 _ rfl
                by_cases hdb : blank d = true
                · rw [if_pos (show ends (d :: q) = true from hdb)]
                  refine Ev.of go fun k _ => ?_
                  rw [if_neg (by omega), if_pos (by rw [S_size]; omega), if_pos (by omega), hb2]
                  rcases (blank_iff d).1 hdb with h1 | h1
                  · rw [if_pos (by omega), if_pos (by omega)]
                  · rw [if_neg (by omega), if_pos (by omega), if_pos (by omega)]
                · rw [if_neg (show ¬ ends (d :: q) = true from hdb)]
                  have hdb' : ¬ (d.toNat = 32 ∨ d.toNat = 9) := fun x => hdb ((blank_iff d).2 x)
                  refine ⟨0, fun k _ => ?_⟩
                  show (if _ then _ else _) = _
                  rw [if_neg (by omega), if_pos (by rw [S_size]; omega), if_pos (by omega), hb2, if_neg (by omega), if_neg (by omega)]
                  rfl
          · rw [wordsL_bare c r hc h35 h34]
            refine Ev.step (rf_bare l hl _ acc i (by omega) (l.length - i) i (by omega) hi (Nat.le_refl _) ?_) fun k => by
              rw [plaitingref18_Words.j3, if_neg (by decide), if_pos (by omega), if_pos (by rw [S_size]; omega), hb, if_neg (by omega)]
            rw [hd]
            simp only [bare, if_neg hc, if_neg h34]
            cases hbr : bare r with
            | none => rfl
            | some n =>
              have hn := bare_len r n hbr
              simp only [Option.map_some]
              have go := Ev.step (f := fun k => plaitingref18_Words.l0 k (S l) (acc ++ [S ((l.drop i).take (i + (n + 1) - i))]) ((i + (n + 1) : Nat) : Int)) (ih (i + (n + 1)) (acc ++ [S ((l.drop i).take (i + (n + 1) - i))]) (by omega) (by omega) (by simp; omega)) fun k => by rw [plaitingref18_Words.l0]
              rw [show i + (n + 1) = i + 1 + n by omega, ← List.drop_drop, hr] at go
              rw [show i + (n + 1) = i + 1 + n by omega, ← hd]
              have e : (l.drop i).take (i + 1 + n - i) = c :: r.take n := by rw [hd, show i + 1 + n - i = n + 1 by omega]; rfl
              rw [e] at go ⊢
              have fin : ∀ ws, wordsR (acc ++ [S (c :: r.take n)]) ws = wordsR acc (match ws with
                  | none => none
                  | some ws => some (S (c :: r.take n) :: ws)) := by
                intro ws; cases ws <;> simp [wordsR]
              rw [fin] at go
              exact go
end Go.Proofs.YtoamchhmehpgoaaGreatDoor.PSJ
