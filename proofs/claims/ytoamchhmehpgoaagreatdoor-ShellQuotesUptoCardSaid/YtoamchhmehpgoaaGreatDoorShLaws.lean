/- The laws of words and of quoted bytes, over lists alone. -/
import Derived.Test.YtoamchhmehpgoaaGreatDoorShWords
import Derived.Test.YtoamchhmehpgoaaGreatDoorPSJx9
import Derived.Test.YtoamchhmehpgoaaGreatDoorPSJx10
import Derived.Test.YtoamchhmehpgoaaGreatDoorPSJx11
namespace Go.Proofs.YtoamchhmehpgoaaGreatDoor.PSJ
open Go Go.RowKit Go.Proofs.YtoamchhmehpgoaaGreatDoorW.PrintWords Go.Proofs.YtoamchhmehpgoaaGreatDoorW.PrintLast Go.Proofs.YtoamchhmehpgoaaGreatDoorW.PrintMore
attribute [local go_sem] max2_int min2_int max_two min_two max_three min_three max_four min_four
set_option linter.unusedVariables false
set_option linter.unusedSimpArgs false
abbrev HXS : ByteArray := ⟨#[48, 49, 50, 51, 52, 53, 54, 55, 56, 57, 97, 98, 99, 100, 101, 102]⟩
/-- How a byte is written. -/
def quoB (x : Int) : List Int := if x = 92 ∨ x = 34 then [92, x] else if x = 10 then [92, 110] else if x = 9 then [92, 116] else if x < 32 ∨ x > 126 then [92, 120, bt HXS (x / 16), bt HXS (Go.bits .and .u8 x 15)] else [x]
theorem quoB_1 {x : Int} (a : x = 92 ∨ x = 34) : quoB x = [92, x] := by unfold quoB; rw [if_pos a]
theorem quoB_2 {x : Int} (a : ¬ (x = 92 ∨ x = 34)) (b : x = 10) : quoB x = [92, 110] := by unfold quoB; rw [if_neg a, if_pos b]
theorem quoB_3 {x : Int} (a : ¬ (x = 92 ∨ x = 34)) (b : ¬ x = 10) (c : x = 9) : quoB x = [92, 116] := by unfold quoB; rw [if_neg a, if_neg b, if_pos c]
theorem quoB_4 {x : Int} (a : ¬ (x = 92 ∨ x = 34)) (b : ¬ x = 10) (c : ¬ x = 9) (d : x < 32 ∨ x > 126) : quoB x = [92, 120, bt HXS (x / 16), bt HXS (Go.bits .and .u8 x 15)] := by unfold quoB; rw [if_neg a, if_neg b, if_neg c, if_pos d]
theorem quoB_5 {x : Int} (a : ¬ (x = 92 ∨ x = 34)) (b : ¬ x = 10) (c : ¬ x = 9) (d : ¬ (x < 32 ∨ x > 126)) : quoB x = [x] := by unfold quoB; rw [if_neg a, if_neg b, if_neg c, if_neg d]
theorem quoB_len (x : Int) : (quoB x).length ≤ 4 := by
  unfold quoB
  split
  · simp
  · split
    · simp
    · split
      · simp
      · split <;> simp
theorem flat_len (l : List Int) : (l.flatMap quoB).length ≤ 4 * l.length := by
  induction l with
  | nil => simp
  | cons x r ih => rw [List.flatMap_cons, List.length_append, List.length_cons]; have := quoB_len x; omega
abbrev By (l : List Int) : Prop := ∀ x ∈ l, 0 ≤ x ∧ x < 256
theorem low4 (x : Int) (h0 : 0 ≤ x) (h1 : x < 256) : 0 ≤ Go.bits .and .u8 x 15 ∧ Go.bits .and .u8 x 15 < 16 := by
  have h : ∀ n : Fin 256, 0 ≤ Go.bits .and .u8 ((n.val : Nat) : Int) 15 ∧ Go.bits .and .u8 ((n.val : Nat) : Int) 15 < 16 := by decide +kernel
  obtain ⟨n, rfl⟩ := Int.eq_ofNat_of_zero_le h0
  exact h ⟨n, by omega⟩
theorem rd_at {l : List Int} {i : Nat} {x : Int} {r : List Int} (h : l.drop i = x :: r) : i < l.length ∧ rd l (i : Int) = x := by
  have hi : i < l.length := by
    rcases Nat.lt_or_ge i l.length with h1 | h1
    · exact h1
    · rw [List.drop_eq_nil_of_le h1] at h; cases h
  refine ⟨hi, ?_⟩
  rw [List.drop_eq_getElem_cons hi] at h
  unfold rd
  rw [List.getD_eq_getElem?_getD, Int.toNat_natCast, List.getElem?_eq_getElem hi]
  exact (List.cons.inj h).1
theorem sh_quote (l : List Int) (hl : l.length ≤ 100000000000) (hb : By l) (N : Nat) : ∀ (i : Nat) (acc : List Int), l.length ≤ N + i → i ≤ l.length → acc.length ≤ 1 + 4 * i →
    Ev (fun k => shell_Quote.l0 k acc l (l.length : Int) (i : Int)) (strOfNums (acc ++ (l.drop i).flatMap quoB ++ [34])) := by
  induction N with
  | zero =>
    intro i acc hN hi ha
    have hd : l.drop i = [] := List.drop_eq_nil_of_le (by omega)
    rw [hd]
    refine Ev.done fun k => ?_
    rw [shell_Quote.l0, if_neg (by omega), if_pos (by omega)]; simp
  | succ N ih =>
    intro i acc hN hi ha
    cases hd : l.drop i with
    | nil =>
      have : l.length ≤ i := List.drop_eq_nil_iff.1 hd
      refine Ev.done fun k => ?_
      rw [shell_Quote.l0, if_neg (by omega), if_pos (by omega)]; simp
    | cons x r =>
      obtain ⟨hlt, hx⟩ := rd_at hd
      have hr : l.drop (i + 1) = r := by rw [← List.drop_drop, hd]; rfl
      have hm : x ∈ l := by rw [← List.take_append_drop i l, hd]; simp
      obtain ⟨x0, x1⟩ := hb x hm
      have go : ∀ ys, ys = quoB x → Ev (fun k => if acc.length + ys.length < 140737488355328 then shell_Quote.l0 k (acc ++ ys) l (l.length : Int) (wrap64 ((i : Int) + 1)) else none) (strOfNums (acc ++ (x :: r).flatMap quoB ++ [34])) := by
        rintro _ rfl
        have hq := quoB_len x
        have g := ih (i + 1) (acc ++ quoB x) (by omega) (by omega) (by rw [List.length_append]; omega)
        rw [hr] at g
        rw [List.flatMap_cons, ← List.append_assoc acc]
        refine Ev.of g fun k _ => ?_
        rw [if_pos (by omega), w64 _ (by omega) (by omega)]; rfl
      have hl4 := low4 x x0 x1
      have hcom : ∀ k, shell_Quote.l0 (k + 1) acc l (l.length : Int) (i : Int) = (if acc.length + (quoB x).length < 140737488355328 then shell_Quote.l0 k (acc ++ quoB x) l (l.length : Int) (wrap64 ((i : Int) + 1)) else none) := by
        intro k
        rw [shell_Quote.l0, if_pos (by omega), if_pos (by omega), if_pos (by omega), hx]
        by_cases a : x = 92
        · rw [if_pos a, quoB_1 (.inl a)]; rfl
        · rw [if_neg a]
          by_cases b : x = 34
          · rw [if_pos b, quoB_1 (.inr b)]; rfl
          · have ab : ¬ (x = 92 ∨ x = 34) := by omega
            rw [if_neg b]
            by_cases c : x = 10
            · rw [if_pos c, quoB_2 ab c]; rfl
            · rw [if_neg c]
              by_cases d : x = 9
              · rw [if_pos d, quoB_3 ab c d]; rfl
              · rw [if_neg d]
                by_cases e : x < 32
                · rw [if_pos e, if_pos (by omega), if_pos (by omega), if_pos hl4.1, if_pos hl4.2, quoB_4 ab c d (.inl e)]; rfl
                · rw [if_neg e]
                  by_cases f : x > 126
                  · rw [if_pos f, if_pos (by omega), if_pos (by omega), if_pos hl4.1, if_pos hl4.2, quoB_4 ab c d (.inr f)]; rfl
                  · rw [if_neg f, quoB_5 ab c d (by omega), if_pos (by omega), if_pos (by simp; omega)]
      exact Ev.step (go _ rfl) hcom
theorem rf_quote (l : List Int) (hl : l.length ≤ 100000000000) (hb : By l) (N : Nat) : ∀ (i : Nat) (acc : List Int), l.length ≤ N + i → i ≤ l.length → acc.length ≤ 1 + 4 * i →
    Ev (fun k => plaitingref18_Quote.l0 k l HXS acc (i : Int)) (strOfNums (acc ++ (l.drop i).flatMap quoB ++ [34])) := by
  induction N with
  | zero =>
    intro i acc hN hi ha
    have hd : l.drop i = [] := List.drop_eq_nil_of_le (by omega)
    rw [hd]
    refine Ev.done fun k => ?_
    rw [plaitingref18_Quote.l0, if_neg (by omega), if_pos (by omega)]; simp
  | succ N ih =>
    intro i acc hN hi ha
    cases hd : l.drop i with
    | nil =>
      have : l.length ≤ i := List.drop_eq_nil_iff.1 hd
      refine Ev.done fun k => ?_
      rw [plaitingref18_Quote.l0, if_neg (by omega), if_pos (by omega)]; simp
    | cons x r =>
      obtain ⟨hlt, hx⟩ := rd_at hd
      have hr : l.drop (i + 1) = r := by rw [← List.drop_drop, hd]; rfl
      have hm : x ∈ l := by rw [← List.take_append_drop i l, hd]; simp
      obtain ⟨x0, x1⟩ := hb x hm
      have go : ∀ ys, ys = quoB x → Ev (fun k => if acc.length + ys.length < 140737488355328 then plaitingref18_Quote.l0 k l HXS (acc ++ ys) (wrap64 ((i : Int) + 1)) else none) (strOfNums (acc ++ (x :: r).flatMap quoB ++ [34])) := by
        rintro _ rfl
        have hq := quoB_len x
        have g := ih (i + 1) (acc ++ quoB x) (by omega) (by omega) (by rw [List.length_append]; omega)
        rw [hr] at g
        rw [List.flatMap_cons, ← List.append_assoc acc]
        refine Ev.of g fun k _ => ?_
        rw [if_pos (by omega), w64 _ (by omega) (by omega)]; rfl
      have hl4 := low4 x x0 x1
      have hcom : ∀ k b, b = (decide (x = 92) || decide (x = 34)) → plaitingref18_Quote.j1 (k + 1) l HXS acc (i : Int) x b = (if acc.length + (quoB x).length < 140737488355328 then plaitingref18_Quote.l0 k l HXS (acc ++ quoB x) (wrap64 ((i : Int) + 1)) else none) := by
        intro k b hbb
        have hz : ((HXS.size : Nat) : Int) = 16 := rfl
        rw [plaitingref18_Quote.j1]
        by_cases a : x = 92 ∨ x = 34
        · have : b = true := by rw [hbb]; simpa using a
          rw [this, if_pos rfl, quoB_1 a]; rfl
        · have : b = false := by rw [hbb]; simpa using a
          rw [this, if_neg (show ¬ (false = true) by decide)]
          by_cases c : x = 10
          · rw [if_pos c, quoB_2 a c]; rfl
          · rw [if_neg c]
            by_cases d : x = 9
            · rw [if_pos d, quoB_3 a c d]; rfl
            · rw [if_neg d]
              by_cases e : x < 32
              · rw [if_pos e, if_pos (by omega), hz, if_pos (by omega), if_pos hl4.1, if_pos hl4.2, quoB_4 a c d (.inl e)]; rfl
              · rw [if_neg e]
                by_cases f : x > 126
                · rw [if_pos f, if_pos (by omega), hz, if_pos (by omega), if_pos hl4.1, if_pos hl4.2, quoB_4 a c d (.inr f)]; rfl
                · rw [if_neg f, quoB_5 a c d (by omega), if_pos (by omega), if_pos (by simp; omega)]
      by_cases a : x = 92
      · refine Ev.step (g := fun k => plaitingref18_Quote.j1 k l HXS acc (i : Int) x true) (Ev.step (go _ rfl) fun k => hcom k true (by simp [a])) fun k => ?_
        rw [plaitingref18_Quote.l0, if_pos (by omega), if_pos (by omega), hx, if_pos a]
      · refine Ev.step (g := fun k => plaitingref18_Quote.j1 k l HXS acc (i : Int) x (x == 34)) (Ev.step (go _ rfl) fun k => hcom k (x == 34) (by
          rw [decide_eq_false a, Bool.false_or]; rfl)) fun k => ?_
        rw [plaitingref18_Quote.l0, if_pos (by omega), if_pos (by omega), hx, if_neg a]
/-- Bytes, quoted. -/
def quoted_ (l : List Int) : List Int := 34 :: (l.flatMap quoB ++ [34])
theorem sh_Quote (l : List Int) (hl : l.length ≤ 100000000000) (hb : By l) : Ev (fun k => shell_Quote.f k l) (strOfNums (quoted_ l)) := by
  have := sh_quote l hl hb l.length 0 [34] (by omega) (by omega) (by simp)
  simpa [shell_Quote.f, quoted_] using this
theorem rf_Quote (l : List Int) (hl : l.length ≤ 100000000000) (hb : By l) : Ev (fun k => plaitingref18_Quote.f k l) (strOfNums (quoted_ l)) := by
  have := rf_quote l hl hb l.length 0 [34] (by omega) (by omega) (by simp)
  simpa [plaitingref18_Quote.f, quoted_] using this
theorem sh_Words (l : List UInt8) (hl : l.length ≤ 100000000000) : Ev (fun k => shell_Words.f k (S l)) (wordsR [] (wordsL l)) := by
  have := sh_words l hl l.length 0 [] (by omega) (by omega) (by simp)
  simpa [shell_Words.f] using this
theorem rf_Words (l : List UInt8) (hl : l.length ≤ 100000000000) : Ev (fun k => plaitingref18_Words.f k (S l)) (wordsR [] (wordsL l)) := by
  have := rf_words l hl l.length 0 [] (by omega) (by omega) (by simp)
  simpa [plaitingref18_Words.f] using this
theorem words_many (N : Nat) : ∀ (l : List UInt8) (ws : List ByteArray), l.length ≤ N → wordsL l = some ws → ws.length ≤ l.length := by
  induction N with
  | zero =>
    intro l ws hN h
    obtain rfl : l = [] := List.length_eq_zero_iff.1 (by omega)
    rw [wordsL_nil] at h; cases h; simp
  | succ N ih =>
    intro l ws hN h
    cases l with
    | nil => rw [wordsL_nil] at h; cases h; simp
    | cons c r =>
      simp only [List.length_cons] at hN ⊢
      by_cases h1 : blank c = true
      · rw [wordsL_blank c r h1] at h
        have := ih r ws (by omega) h; omega
      · by_cases h2 : c.toNat = 35
        · rw [wordsL_hash c r h2] at h; cases h; simp
        · by_cases h3 : c.toNat = 34
          · rw [wordsL_quote c r h3] at h
            cases hq : quo r with
            | none => rw [hq] at h; cases h
            | some y =>
              obtain ⟨bs, m⟩ := y
              rw [hq] at h
              simp only at h
              split at h
              · cases hw : wordsL (r.drop m) with
                | none => rw [hw] at h; cases h
                | some q =>
                  rw [hw] at h; cases h
                  have := ih (r.drop m) q (by rw [List.length_drop]; omega) hw
                  rw [List.length_drop] at this
                  simp only [List.length_cons]; omega
              · cases h
          · rw [wordsL_bare c r h1 h2 h3] at h
            cases hq : bare r with
            | none => rw [hq] at h; cases h
            | some m =>
              rw [hq] at h
              simp only at h
              cases hw : wordsL (r.drop m) with
              | none => rw [hw] at h; cases h
              | some q =>
                rw [hw] at h; cases h
                have := ih (r.drop m) q (by rw [List.length_drop]; omega) hw
                rw [List.length_drop] at this
                simp only [List.length_cons]; omega
theorem same_loop (x1 : List Int) (ws : List ByteArray) (hws : ws.length ≤ 100000000000) (R : Bool) (h : Ev (fun k => ((some (([] : List Int) : List Int)).bind fun y253 => (if y253.length + x1.length < 140737488355328 then ((some (y253 ++ x1 : List Int)).bind fun y256 => ((shell_Quote.f k y256).bind fun t259 => ((plaitingref18_Quote.f k x1).bind fun t260 => (if t259.toList = t260.toList then (some ((strOfNums y256).toList == (strOfNums x1).toList)) else (some false))))) else (none)))) R) (N : Nat) : ∀ i : Nat, ws.length ≤ N + i → i ≤ ws.length → Ev (fun k => plaitinglaw18_ShellWords.l0 k x1 ws ws (i : Int)) R := by
  induction N with
  | zero =>
    intro i hN hi
    exact Ev.step h fun k => by rw [plaitinglaw18_ShellWords.l0, if_neg (by omega)]
  | succ N ih =>
    intro i hN hi
    rcases Nat.lt_or_ge i ws.length with h1 | h1
    · refine Ev.step (ih (i + 1) (by omega) (by omega)) fun k => ?_
      rw [plaitinglaw18_ShellWords.l0, if_pos (by omega), if_pos (by omega), if_pos (by omega), if_pos rfl, w64 _ (by omega) (by omega)]; rfl
    · exact Ev.step h fun k => by rw [plaitinglaw18_ShellWords.l0, if_neg (by omega)]
/-- The first law. -/
theorem words_law (a0 : ByteArray) (l1 : List Int) (ha : a0.size ≤ 100000000000) (hl : l1.length ≤ 100000000000) (hb : By l1) : ∃ k, plaitinglaw18_ShellWords.f k a0 l1 = some true := by
  obtain ⟨l, rfl⟩ : ∃ l, a0 = S l := ⟨_, S_eta a0⟩
  rw [S_size] at ha
  have h1 := sh_Words l ha
  have h2 := rf_Words l ha
  have hlen : (wordsR [] (wordsL l)).1.length ≤ 100000000000 := by
    cases hw : wordsL l with
    | none => simp [wordsR]
    | some ws => have := words_many l.length l ws (Nat.le_refl _) hw; simp only [wordsR, List.nil_append]; omega
  have hq : Ev (fun k => ((some (([] : List Int) : List Int)).bind fun y253 => (if y253.length + l1.length < 140737488355328 then ((some (y253 ++ l1 : List Int)).bind fun y256 => ((shell_Quote.f k y256).bind fun t259 => ((plaitingref18_Quote.f k l1).bind fun t260 => (if t259.toList = t260.toList then (some ((strOfNums y256).toList == (strOfNums l1).toList)) else (some false))))) else (none)))) true := by
    have q1 := sh_Quote l1 hl hb
    have q2 := rf_Quote l1 hl hb
    refine Ev.of (Ev.bind q1 (Ev.bind q2 (g := fun _ t260 => if (strOfNums (quoted_ l1)).toList = t260.toList then some ((strOfNums ([] ++ l1)).toList == (strOfNums l1).toList) else some false) (b := true) ⟨0, fun k _ => ?_⟩) (g := fun k t259 => (plaitingref18_Quote.f k l1).bind fun t260 => if t259.toList = t260.toList then some ((strOfNums ([] ++ l1)).toList == (strOfNums l1).toList) else some false)) fun k _ => ?_
    · simp
    · simp only [Option.bind_some, List.length_nil, List.nil_append]
      rw [if_pos (by omega)]
  generalize wordsR [] (wordsL l) = R at *
  have hloop := same_loop l1 R.1 hlen true hq R.1.length 0 (by omega) (by omega)
  have hj : Ev (fun k => plaitinglaw18_ShellWords.j0 k l1 R.1 R.1 ((R.1.length : Int) != (R.1.length : Int))) true := by
    refine Ev.step hloop fun k => ?_
    rw [plaitinglaw18_ShellWords.j0, if_neg (by simp)]; rfl
  have all : Ev (fun k => plaitinglaw18_ShellWords.f k (S l) l1) true := by
    have := Ev.bind h1 (Ev.bind h2 (g := fun k bt247 => if R.2 = bt247.2 then plaitinglaw18_ShellWords.j0 k l1 R.1 bt247.1 ((R.1.length : Int) != (bt247.1.length : Int)) else plaitinglaw18_ShellWords.j0 k l1 R.1 bt247.1 true) (Ev.of hj fun k _ => by rw [if_pos rfl])) (g := fun k bt243 => (plaitingref18_Words.f k (S l)).bind fun bt247 => (if bt243.2 = bt247.2 then (plaitinglaw18_ShellWords.j0 k l1 bt243.1 bt247.1 ((bt243.1.length : Int) != (bt247.1.length : Int))) else (plaitinglaw18_ShellWords.j0 k l1 bt243.1 bt247.1 true)))
    refine Ev.of this fun k _ => ?_
    unfold plaitinglaw18_ShellWords.f plaitinglaw18_known.f
    rw [Option.bind_some, if_pos rfl]
  obtain ⟨K, hK⟩ := all
  exact ⟨K, hK K (Nat.le_refl _)⟩
end Go.Proofs.YtoamchhmehpgoaaGreatDoor.PSJ
