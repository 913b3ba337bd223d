/- The words of a line and quoted bytes, as lists of bytes. -/
import Derived.Test.YtoamchhmehpgoaaGreatDoorPSJx11
import Derived.Test.YtoamchhmehpgoaaGreatDoorPSJx9
import Derived.Test.YtoamchhmehpgoaaGreatDoorPSJx10
import Derived.Lib.SmallJoins
namespace Go.Proofs.YtoamchhmehpgoaaGreatDoor.PSJ
open Go Go.RowKit Go.Proofs.YtoamchhmehpgoaaGreatDoorW.PrintWords Go.Proofs.YtoamchhmehpgoaaGreatDoorW.PrintLast Go.Proofs.YtoamchhmehpgoaaGreatDoorW.PrintMore
attribute [local go_sem] max2_int min2_int max_two min_two max_three min_three max_four min_four
set_option linter.unusedVariables false
set_option linter.unusedSimpArgs false
abbrev S (l : List UInt8) : ByteArray := ⟨l.toArray⟩
theorem S_data (l : List UInt8) : (S l).data.toList = l := by simp
theorem S_size (l : List UInt8) : (S l).size = l.length := by simp [ByteArray.size]
theorem S_list (l : List UInt8) : (S l).toList = l := ByteArray.toList_mk l
theorem S_eta (s : ByteArray) : s = S s.data.toList := (Joins.bytes_eta s).symm
theorem ext_data {a b : ByteArray} (h : a.data.toList = b.data.toList) : a = b := by
  rw [S_eta a, S_eta b, h]
theorem S_append (a b : List UInt8) : S a ++ S b = S (a ++ b) := by
  apply ext_data
  rw [Joins.data_append, S_data, S_data, S_data]
theorem S_extract (l : List UInt8) (i j : Nat) : (S l).extract i j = S ((l.drop i).take (j - i)) := by
  apply ext_data
  rw [ByteArray.data_extract, Array.toList_extract, S_data, S_data, List.extract_eq_take_drop]
theorem S_take (l : List UInt8) (j : Nat) : (S l).extract 0 j = S (l.take j) := by rw [S_extract]; rfl
theorem S_bt (l : List UInt8) (i : Nat) (h : i < l.length) : bt (S l) (i : Int) = ((l[i]'h).toNat : Int) := by
  have h' : (i : Int).toNat < (S l).size := by rw [S_size]; simpa using h
  unfold bt
  rw [dif_pos h']
  rfl
theorem S_inj {a b : List UInt8} (h : S a = S b) : a = b := by
  have := congrArg (fun s : ByteArray => s.data.toList) h
  simpa only [S_data] using this
theorem w64 (n : Int) (h0 : -9223372036854775808 ≤ n) (h1 : n < 9223372036854775808) : wrap64 n = n := by
  unfold wrap64
  omega

/-- A digit of a byte. -/
def hexd (c : Nat) : Option Nat := if 48 ≤ c ∧ c ≤ 57 then some (c - 48) else if 97 ≤ c ∧ c ≤ 102 then some (c - 87) else none
def hexI (c : Nat) : Int := match hexd c with
  | some v => v
  | none => -1
theorem hexd_lt (c v : Nat) (h : hexd c = some v) : v < 16 := by
  unfold hexd at h
  split at h
  · obtain rfl := Option.some.inj h; omega
  · split at h
    · obtain rfl := Option.some.inj h; omega
    · exact absurd h (by simp)
theorem hexI_some {c v : Nat} (h : hexd c = some v) : hexI c = v := by unfold hexI; rw [h]
theorem hexI_none {c : Nat} (h : hexd c = none) : hexI c = -1 := by unfold hexI; rw [h]
abbrev HEX : List UInt8 := [48, 49, 50, 51, 52, 53, 54, 55, 56, 57, 97, 98, 99, 100, 101, 102]
theorem index_hex (c : UInt8) : Lib.indexByte HEX c = hexI c.toNat := by
  have h : ∀ n : Fin 256, Lib.indexByte HEX (UInt8.ofFin n) = hexI n.val := by decide +kernel
  exact h c.toFin
theorem indexByte_hex (c : UInt8) : strings_IndexByte.f (⟨#[48, 49, 50, 51, 52, 53, 54, 55, 56, 57, 97, 98, 99, 100, 101, 102]⟩ : ByteArray) ((c.toNat : Nat) : Int) = some (hexI c.toNat) := by
  show some (Lib.indexByte HEX ((c.toNat : Nat) : Int).toNat.toUInt8) = _
  rw [← index_hex c]
  congr 2
  simp
/-- A byte by its two digits. -/
def escX : List UInt8 → Option (Nat × Nat)
  | a :: b :: _ => (match hexd a.toNat, hexd b.toNat with
    | some x, some y => some (16 * x + y, 4)
    | _, _ => none)
  | _ => none
/-- One byte, as it is written, and how many it is written with; none: a backslash that begins nothing. -/
def esc : List UInt8 → Option (Nat × Nat)
  | [] => none
  | [c] => if c.toNat = 92 then none else some (c.toNat, 1)
  | c :: d :: r => if c.toNat = 92 then (if d.toNat = 92 ∨ d.toNat = 34 then some (d.toNat, 2) else if d.toNat = 110 then some (10, 2) else if d.toNat = 116 then some (9, 2) else if d.toNat = 120 then escX r else none) else some (c.toNat, 1)
def escR : Option (Nat × Nat) → Int × Int
  | none => (0, 0)
  | some (c, n) => (c, n)
theorem escape_eq (k : Nat) (hk : 1 ≤ k) (c : UInt8) (r : List UInt8) : shell_escape.f k (S (c :: r)) = some (escR (esc (c :: r))) := by
  obtain ⟨m, rfl⟩ : ∃ m, k = m + 1 := ⟨k - 1, by omega⟩
  have b0 : bt (S (c :: r)) 0 = (c.toNat : Int) := S_bt (c :: r) 0 (by simp)
  have z0 : (0 : Int) < ((S (c :: r)).size : Int) := by rw [S_size]; simp only [List.length_cons]; omega
  unfold shell_escape.f
  rw [if_pos z0, b0]
  by_cases h : c.toNat = 92
  · rw [if_pos (show ((c.toNat : Nat) : Int) = 92 by omega)]
    cases r with
    | nil => rw [if_pos (by rw [S_size]; simp)]; simp [esc, h, escR]
    | cons d r =>
      have z1 : ¬ (((S (c :: d :: r)).size : Int) < 2) := by rw [S_size]; simp only [List.length_cons]; omega
      have z2 : (1 : Int) < ((S (c :: d :: r)).size : Int) := by rw [S_size]; simp only [List.length_cons]; omega
      have b1 : bt (S (c :: d :: r)) 1 = (d.toNat : Int) := S_bt (c :: d :: r) 1 (by simp)
      rw [if_neg z1, if_pos z2, b1]
      have hj : ∀ b : Bool, shell_escape.j0 (m + 1) (S (c :: d :: r)) (d.toNat : Int) b = if b = true then some ((d.toNat : Int), 2) else if d.toNat = 110 then some (10, 2) else if d.toNat = 116 then some (9, 2) else if d.toNat = 120 then some (escR (escX r)) else some (0, 0) := by
        intro b
        rw [shell_escape.j0]
        cases b with
        | true => rw [if_pos rfl, if_pos rfl, if_pos z2, b1]
        | false =>
          rw [if_neg (show ¬ (false = true) by decide), if_neg (show ¬ (false = true) by decide)]
          by_cases h1 : d.toNat = 110
          · rw [if_pos (show ((d.toNat : Nat) : Int) = 110 by omega), if_pos h1]
          · rw [if_neg (show ¬ ((d.toNat : Nat) : Int) = 110 by omega), if_neg h1]
            by_cases h2 : d.toNat = 116
            · rw [if_pos (show ((d.toNat : Nat) : Int) = 116 by omega), if_pos h2]
            · rw [if_neg (show ¬ ((d.toNat : Nat) : Int) = 116 by omega), if_neg h2]
              by_cases h3 : d.toNat = 120
              · rw [if_pos (show ((d.toNat : Nat) : Int) = 120 by omega), if_pos h3]
                match r with
                | [] => rw [if_pos (by rw [S_size]; simp)]; rfl
                | [a] => rw [if_pos (by rw [S_size]; simp)]; rfl
                | a :: b :: r =>
                  have y0 : ¬ (((S (c :: d :: a :: b :: r)).size : Int) < 4) := by rw [S_size]; simp only [List.length_cons]; omega
                  have y1 : (2 : Int) < ((S (c :: d :: a :: b :: r)).size : Int) := by rw [S_size]; simp only [List.length_cons]; omega
                  have y2 : (3 : Int) < ((S (c :: d :: a :: b :: r)).size : Int) := by rw [S_size]; simp only [List.length_cons]; omega
                  have b2 : bt (S (c :: d :: a :: b :: r)) 2 = (a.toNat : Int) := S_bt (c :: d :: a :: b :: r) 2 (by simp)
                  have b3 : bt (S (c :: d :: a :: b :: r)) 3 = (b.toNat : Int) := S_bt (c :: d :: a :: b :: r) 3 (by simp)
                  rw [if_neg y0, if_pos y1, b2, b3, indexByte_hex, indexByte_hex, Option.bind_some, if_pos y2, Option.bind_some]
                  cases ha : hexd a.toNat with
                  | none => rw [hexI_none ha, if_neg (by decide)]; simp [escR, escX, ha]
                  | some x =>
                    rw [hexI_some ha, if_pos (by omega)]
                    cases hb : hexd b.toNat with
                    | none => rw [hexI_none hb, if_neg (by decide)]; simp [escR, escX, ha, hb]
                    | some y =>
                      have hx := hexd_lt _ _ ha
                      have hy := hexd_lt _ _ hb
                      rw [hexI_some hb, if_pos (by omega), w64 (16 * (x : Int)) (by omega) (by omega), w64 _ (by omega) (by omega), Int.emod_eq_of_lt (by omega) (by omega)]
                      simp [escR, escX, ha, hb]
              · rw [if_neg (show ¬ ((d.toNat : Nat) : Int) = 120 by omega), if_neg h3]
      by_cases h9 : d.toNat = 92
      · rw [if_pos (show ((d.toNat : Nat) : Int) = 92 by omega), hj, if_pos (by simp [h9])]
        simp [esc, h, h9, escR]
      · rw [if_neg (show ¬ ((d.toNat : Nat) : Int) = 92 by omega), hj]
        by_cases h34 : d.toNat = 34
        · rw [if_pos (by simp [h34])]
          simp [esc, h, h34, escR]
        · rw [if_neg (by simp; omega)]
          simp only [esc, if_pos h, if_neg (show ¬ (d.toNat = 92 ∨ d.toNat = 34) by omega)]
          split
          · rfl
          · split
            · rfl
            · split <;> rfl
  · rw [if_neg (show ¬ ((c.toNat : Nat) : Int) = 92 by omega)]
    cases r with
    | nil => simp [esc, h, escR]
    | cons d r => simp [esc, h, escR]
/-- What is told by all but finitely many numbers of rounds. -/
def Ev {α : Type} (f : Nat → Option α) (r : α) : Prop := ∃ K, ∀ k, K ≤ k → f k = some r
theorem Ev.step {α : Type} {f g : Nat → Option α} {r : α} (h : Ev g r) (e : ∀ k, f (k + 1) = g k) : Ev f r := by
  obtain ⟨K, hK⟩ := h
  refine ⟨K + 1, fun k hk => ?_⟩
  obtain ⟨m, rfl⟩ : ∃ m, k = m + 1 := ⟨k - 1, by omega⟩
  rw [e]; exact hK m (by omega)
theorem Ev.done {α : Type} {f : Nat → Option α} {r : α} (e : ∀ k, f (k + 1) = some r) : Ev f r := by
  refine ⟨1, fun k hk => ?_⟩
  obtain ⟨m, rfl⟩ : ∃ m, k = m + 1 := ⟨k - 1, by omega⟩
  exact e m
theorem Ev.bind {α β : Type} {f : Nat → Option α} {g : Nat → α → Option β} {a : α} {b : β} (hf : Ev f a) (hg : Ev (fun k => g k a) b) : Ev (fun k => (f k).bind (g k)) b := by
  obtain ⟨K, hK⟩ := hf
  obtain ⟨L, hL⟩ := hg
  refine ⟨K + L, fun k hk => ?_⟩
  show (f k).bind (g k) = some b
  rw [hK k (by omega), Option.bind_some]; exact hL k (by omega)
theorem Ev.of {α : Type} {f g : Nat → Option α} {r : α} (h : Ev g r) (e : ∀ k, 1 ≤ k → f k = g k) : Ev f r := by
  obtain ⟨K, hK⟩ := h
  exact ⟨K + 1, fun k hk => (e k (by omega)).trans (hK k (by omega))⟩
theorem escX_len (l : List UInt8) (b n : Nat) (h : escX l = some (b, n)) : n = 4 ∧ 2 ≤ l.length := by
  match l with
  | [] => simp [escX] at h
  | [a] => simp [escX] at h
  | a :: c :: r =>
    simp only [escX] at h
    split at h
    · cases h; simp
    · cases h
theorem esc_len : ∀ (l : List UInt8) (b n : Nat), esc l = some (b, n) → 1 ≤ n ∧ n ≤ l.length
  | [], _, _, h => by simp [esc] at h
  | [c], b, n, h => by
    simp only [esc] at h
    by_cases h1 : c.toNat = 92
    · rw [if_pos h1] at h; cases h
    · rw [if_neg h1] at h; cases h; simp
  | c :: d :: r, b, n, h => by
    simp only [esc] at h
    by_cases h1 : c.toNat = 92
    · rw [if_pos h1] at h
      by_cases h2 : d.toNat = 92 ∨ d.toNat = 34
      · rw [if_pos h2] at h; cases h; simp
      · rw [if_neg h2] at h
        by_cases h3 : d.toNat = 110
        · rw [if_pos h3] at h; cases h; simp
        · rw [if_neg h3] at h
          by_cases h4 : d.toNat = 116
          · rw [if_pos h4] at h; cases h; simp
          · rw [if_neg h4] at h
            by_cases h5 : d.toNat = 120
            · rw [if_pos h5] at h
              obtain ⟨rfl, h6⟩ := escX_len _ _ _ h
              simp only [List.length_cons]; omega
            · rw [if_neg h5] at h; cases h
    · rw [if_neg h1] at h; cases h; simp
/-- The word behind a quote: its bytes, how many signs it has, with the quote that ends it. -/
def quo (l : List UInt8) : Option (List Int × Nat) := match l with
  | [] => none
  | c :: r => if c.toNat = 34 then some ([], 1) else (match h : esc (c :: r) with
    | none => none
    | some (b, n) => (match quo ((c :: r).drop n) with
      | none => none
      | some (bs, m) => some ((b : Int) :: bs, n + m)))
termination_by l.length
decreasing_by
  have := esc_len _ _ _ h
  simp only [List.length_drop]
  omega
theorem quo_nil : quo [] = none := by rw [quo]
theorem quo_end (c : UInt8) (r : List UInt8) (h : c.toNat = 34) : quo (c :: r) = some ([], 1) := by rw [quo]; simp [h]
theorem quo_bad (c : UInt8) (r : List UInt8) (h : ¬ c.toNat = 34) (he : esc (c :: r) = none) : quo (c :: r) = none := by
  rw [quo, if_neg h]
  split
  · rfl
  · rename_i b n hs; rw [he] at hs; cases hs
theorem quo_more (c : UInt8) (r : List UInt8) (h : ¬ c.toNat = 34) (b n : Nat) (he : esc (c :: r) = some (b, n)) : quo (c :: r) = (match quo ((c :: r).drop n) with
    | none => none
    | some (bs, m) => some ((b : Int) :: bs, n + m)) := by
  rw [quo, if_neg h]
  split
  · rename_i hs; rw [he] at hs; cases hs
  · rename_i b' n' hs; rw [he] at hs; cases hs; rfl
theorem quo_len : ∀ (N : Nat) (l : List UInt8) (bs : List Int) (m : Nat), l.length ≤ N → quo l = some (bs, m) → 1 ≤ m ∧ m ≤ l.length
  | _, [], _, _, _, h => by rw [quo_nil] at h; cases h
  | 0, _ :: _, _, _, hN, _ => by simp at hN
  | N + 1, c :: r, bs, m, hN, h => by
    by_cases h34 : c.toNat = 34
    · rw [quo_end c r h34] at h; cases h; simp
    · cases he : esc (c :: r) with
      | none => rw [quo_bad c r h34 he] at h; cases h
      | some bn =>
        obtain ⟨b, n⟩ := bn
        rw [quo_more c r h34 b n he] at h
        have hn := esc_len _ _ _ he
        cases hq : quo ((c :: r).drop n) with
        | none => rw [hq] at h; cases h
        | some y =>
          obtain ⟨ys, k⟩ := y
          rw [hq] at h; cases h
          have := quo_len N _ _ _ (by rw [List.length_drop]; simp only [List.length_cons] at *; omega) hq
          rw [List.length_drop] at this
          omega
def quoR (i : Int) (acc : List Int) : Option (List Int × Nat) → ByteArray × Int × Bool
  | none => (⟨#[]⟩, 0, false)
  | some (bs, m) => (strOfNums (acc ++ bs), i + m, true)
theorem drop_cons_ {l : List UInt8} {i : Nat} {c : UInt8} {r : List UInt8} (h : l.drop i = c :: r) : i < l.length ∧ ∀ x : ByteArray, x = S l → bt x (i : Int) = ((c.toNat : Nat) : Int) := by
  have hi : i < l.length := by
    rcases Nat.lt_or_ge i l.length with h1 | h1
    · exact h1
    · rw [List.drop_eq_nil_of_le h1] at h; cases h
  refine ⟨hi, ?_⟩
  rintro _ rfl
  rw [List.drop_eq_getElem_cons hi] at h
  rw [S_bt l i hi]
  obtain ⟨h1, _⟩ := List.cons.inj h
  rw [h1]
theorem drop_nil_ {l : List UInt8} {i : Nat} (h : l.drop i = []) : l.length ≤ i := List.drop_eq_nil_iff.1 h
theorem shq : ∀ (N : Nat) (l : List UInt8) (i : Nat) (acc : List Int), l.length ≤ 100000000000 → l.length ≤ N + i → acc.length ≤ i → i ≤ l.length → Ev (fun k => shell_quoted.l0 k (S l) acc (i : Int)) (quoR i acc (quo (l.drop i)))
  | N, l, i, acc, hl, hN, ha, hi => by
    cases hd : l.drop i with
    | nil =>
      rw [quo_nil]
      refine Ev.done fun k => ?_
      rw [shell_quoted.l0, if_neg (by rw [S_size]; have := drop_nil_ hd; omega)]; rfl
    | cons c r =>
      obtain ⟨hlt, hb⟩ := drop_cons_ hd
      have hb := hb _ rfl
      by_cases h34 : c.toNat = 34
      · rw [quo_end c r h34]
        refine Ev.done fun k => ?_
        rw [shell_quoted.l0, if_pos (by rw [S_size]; omega), if_pos (by omega), hb, if_pos (by omega), w64 _ (by omega) (by omega)]
        simp [quoR]
      · have hx : (S l).extract (i : Int).toNat (S l).size = S (c :: r) := by
          rw [S_extract, S_size, ← hd, Int.toNat_natCast, List.take_of_length_le (by rw [List.length_drop]; omega)]
        have hcom : ∀ k, 1 ≤ k → shell_quoted.l0 (k + 1) (S l) acc (i : Int) = (if (escR (esc (c :: r))).2 = 0 then some ((⟨#[]⟩ : ByteArray), 0, false) else if acc.length < 140737488355328 then shell_quoted.l0 k (S l) (acc ++ [(escR (esc (c :: r))).1]) (wrap64 ((i : Int) + (escR (esc (c :: r))).2)) else none) := by
          intro k hk
          rw [shell_quoted.l0, if_pos (by rw [S_size]; omega), if_pos (by omega), hb, if_neg (by omega), if_pos (by rw [S_size]; omega), hx, escape_eq k hk c r, Option.bind_some]
        cases he : esc (c :: r) with
        | none =>
          rw [quo_bad c r h34 he]
          refine ⟨2, fun k hk => ?_⟩
          obtain ⟨m, rfl⟩ : ∃ m, k = m + 1 := ⟨k - 1, by omega⟩
          show shell_quoted.l0 (m + 1) (S l) acc (i : Int) = _
          rw [hcom m (by omega), he]; rfl
        | some bn =>
          obtain ⟨b, n⟩ := bn
          have hn := esc_len _ _ _ he
          have hlen : (c :: r).length = l.length - i := by rw [← hd, List.length_drop]
          rw [hlen] at hn
          match N, hN with
          | 0, hN => omega
          | N + 1, hN =>
          have ih := shq N l (i + n) (acc ++ [(b : Int)]) hl (by omega) (by simp; omega) (by omega)
          rw [quo_more c r h34 b n he, ← hd, List.drop_drop]
          obtain ⟨K, hK⟩ := ih
          refine ⟨K + 2, fun k hk => ?_⟩
          obtain ⟨m, rfl⟩ : ∃ m, k = m + 1 := ⟨k - 1, by omega⟩
          show shell_quoted.l0 (m + 1) (S l) acc (i : Int) = _
          rw [hcom m (by omega), he]
          show (if (n : Int) = 0 then _ else _) = _
          rw [if_neg (by omega), if_pos (by omega)]
          show shell_quoted.l0 m (S l) (acc ++ [(b : Int)]) (wrap64 ((i : Int) + (n : Int))) = _
          rw [w64 _ (by omega) (by omega)]
          have : shell_quoted.l0 m (S l) (acc ++ [(b : Int)]) ((i + n : Nat) : Int) = _ := hK m (by omega)
          rw [show ((i + n : Nat) : Int) = (i : Int) + (n : Int) by omega] at this
          rw [this]
          cases quo (l.drop (i + n)) with
          | none => rfl
          | some y =>
            obtain ⟨ys, q⟩ := y
            simp [quoR]
            omega
theorem shquoted (l : List UInt8) (hl : l.length ≤ 100000000000) : Ev (fun k => shell_quoted.f k (S l)) (quoR 0 [] (quo l)) := by
  have := shq l.length l 0 [] hl (by omega) (by simp) (by omega)
  simpa [shell_quoted.f] using this
end Go.Proofs.YtoamchhmehpgoaaGreatDoor.PSJ
