/- What the sums' functions answer, as lists of bytes. -/
import Derived.Test.YtnggjnhfdjjphaaCrcTheory
import Derived.Test.YtnggjnhfdjjphaaPTwox1
import Derived.Test.YtnggjnhfdjjphaaPTwox10
import Derived.Test.YtnggjnhfdjjphaaPTwox15
import Derived.Test.YtnggjnhfdjjphaaPTwox3
import Derived.Test.YtnggjnhfdjjphaaPTwox7
import Derived.Test.YtnggjnhfdjjphaaPTwox9
namespace Go.Proofs.Ytnggjnhfdjjphaa.Pure
open Go.RowKit Go.Proofs.Ytnggjnhfdjjphaa.PTwo Go.Proofs.YtnggjnhfdjjphaaW.PrintWords Go.Proofs.YtnggjnhfdjjphaaW.PrintLast Go.Proofs.YtnggjnhfdjjphaaW.PrintMore
theorem within2 (a n : Int) (hn : 0 < n) (hb : n ≤ 4611686018427387904) : plaitinglaw2_within.f a n = some (a % n) := within_eq a n hn hb
theorem within2_nat (a : Int) (N : Nat) (h : 0 < N) (hb : N ≤ 4611686018427387904) : ∃ i : Nat, plaitinglaw2_within.f a (N : Int) = some (i : Int) ∧ i < N := by
  have p1 := Int.emod_nonneg a (show (N : Int) ≠ 0 by omega)
  have p2 := Int.emod_lt_of_pos a (show (0 : Int) < (N : Int) by omega)
  refine ⟨(a % (N : Int)).toNat, ?_, by rw [← Int.ofNat_lt, Int.toNat_of_nonneg p1]; exact p2⟩
  rw [Int.toNat_of_nonneg p1]
  exact within2 a N (by omega) (by omega)
theorem w64_sub (n m : Nat) (h : m ≤ n) (hn : n ≤ 4611686018427387904) : wrap64 ((n : Int) - (m : Int)) = ((n - m : Nat) : Int) := by
  rw [w64 _ (by omega) (by omega)]
  omega
theorem crc_Sum_eq (l : List UInt8) (h : isBits l) : crc_Sum.f (S l) = some ((sumF l 65535 : Nat) : Int) := by
  unfold crc_Sum.f
  rw [S_data, sumGo_sumF l 65535 h]
  rfl
theorem and_16 (n : Nat) (h : n < 65536) : Go.bits .and .i64 (wrap64 ((n : Int) * 2)) 65535 = ((2 * n % 65536 : Nat) : Int) := by
  rw [w64 _ (by omega) (by omega), show (n : Int) * 2 = ((2 * n : Nat) : Int) by omega]
  refine (bits_and_i64 (2 * n) 65535 (by omega) (by omega)).trans ?_
  rw [show 65535 = 2 ^ 16 - 1 from rfl, Nat.and_two_pow_sub_one_eq_mod]
theorem xor_4129 (n : Nat) : Go.bits .xor .i64 (((2 * n % 65536 : Nat) : Int)) 4129 = (((2 * n % 65536) ^^^ 4129 : Nat) : Int) := bits_xor_i64 _ 4129 (by omega) (by omega)
theorem w64_succ (n : Nat) (h : n ≤ 4611686018427387904) : wrap64 ((n : Int) + 1) = ((n + 1 : Nat) : Int) := by
  rw [w64 _ (by omega) (by omega)]
  omega
theorem ref_Sum_loop (l : List UInt8) (hb : isBits l) (hl : l.length ≤ 1000) (r : Nat) : ∀ (d k i n : Nat), i + d = l.length → d < k → n < 65536 → sumF (l.drop i) n = r →
    plaitingref2_Sum.l0 k (S l) n i = some (r : Int) := by
  intro d
  induction d with
  | zero =>
    intro k i n hi hk hn hr
    obtain ⟨k, rfl⟩ : ∃ q, k = q + 1 := ⟨k - 1, by omega⟩
    have hz := S_size l
    simp only [plaitingref2_Sum.l0]
    rw [if_neg (by omega)]
    rw [List.drop_of_length_le (by omega)] at hr
    rw [← hr]
    rfl
  | succ d ih =>
    intro k i n hi hk hn hr
    obtain ⟨k, rfl⟩ : ∃ q, k = q + 1 := ⟨k - 1, by omega⟩
    have hz := S_size l
    have hil : i < l.length := by omega
    have hbt := S_bt l i hil
    have hc := hb _ (List.getElem_mem hil)
    rw [List.drop_eq_getElem_cons hil] at hr
    have hgo := ih k (i + 1) (sumStep n ((l[i]'hil).toNat - 48)) (by omega) (by omega) (sumStep_lt _ _) hr
    have hi4 : i ≤ 4611686018427387904 := by omega
    simp only [plaitingref2_Sum.l0]
    rw [if_pos (by omega), if_pos (by omega), hbt, and_16 n hn, w64_succ i hi4, xor_4129]
    clear hbt
    generalize (l[i]'hil).toNat = c at *
    have ht : (n : Int) / 32768 = ((n / 32768 : Nat) : Int) := by omega
    rw [ht]
    unfold sumStep at hgo
    rcases top_bit n hn with h | h <;> rcases hc with rfl | rfl <;> rw [h] at hgo ⊢
    · rw [if_pos (by decide)] at hgo
      rw [if_neg (by decide)]; exact hgo
    · rw [if_neg (by decide)] at hgo
      rw [if_pos (by decide)]; exact hgo
    · rw [if_neg (by decide)] at hgo
      rw [if_pos (by decide)]; exact hgo
    · rw [if_pos (by decide)] at hgo
      rw [if_neg (by decide)]; exact hgo
theorem ref_Sum_eq (l : List UInt8) (hb : isBits l) (hl : l.length ≤ 1000) (k : Nat) (hk : 1010 ≤ k) : plaitingref2_Sum.f k (S l) = some ((sumF l 65535 : Nat) : Int) := by
  unfold plaitingref2_Sum.f
  exact ref_Sum_loop l hb hl _ l.length k 0 65535 (by omega) (by omega) (by decide) rfl
def wrapL (l : List UInt8) : List UInt8 := l ++ bitL (sumF l 65535 : Nat) 16
theorem wrapL_length (l : List UInt8) : (wrapL l).length = l.length + 16 := by unfold wrapL; rw [List.length_append, bitL_length]
theorem wrapL_bits (l : List UInt8) (h : isBits l) : isBits (wrapL l) := by
  intro c hc
  rcases List.mem_append.1 hc with hc | hc
  · exact h c hc
  · exact bitL_bits _ _ c hc
theorem crc_Wrap_eq (l : List UInt8) (h : isBits l) (hl : l.length ≤ 900) (k : Nat) (hk : 1010 ≤ k) : crc_Wrap.f k (S l) = some (S (wrapL l ++ [35])) := by
  have z1 := S_size l
  have z2 := S_size (bitL (sumF l 65535 : Nat) 16)
  rw [bitL_length] at z2
  have z3 := S_size (l ++ bitL (sumF l 65535 : Nat) 16)
  rw [List.length_append, bitL_length] at z3
  have hb : sym_Bits.f k ((sumF l 65535 : Nat) : Int) 16 = some (S (bitL (sumF l 65535 : Nat) 16)) := sym_Bits_eq _ 16 k (by decide) (by decide) (by omega)
  unfold crc_Wrap.f wrapL
  rw [crc_Sum_eq l h, Option.bind_some, hb, Option.bind_some, if_pos (by omega), S_append, if_pos (by omega), show (⟨#[35]⟩ : ByteArray) = S [35] from rfl, S_append]
theorem ref_Wrap_eq (l : List UInt8) (h : isBits l) (hl : l.length ≤ 900) (k : Nat) (hk : 1010 ≤ k) : plaitingref2_Wrap.f k (S l) = some (S (wrapL l ++ [35])) := by
  have z1 := S_size l
  have z2 := S_size (bitL (sumF l 65535 : Nat) 16)
  rw [bitL_length] at z2
  have z3 := S_size (l ++ bitL (sumF l 65535 : Nat) 16)
  rw [List.length_append, bitL_length] at z3
  have hb : plaitingref1_Bits.f k ((sumF l 65535 : Nat) : Int) 16 = some (S (bitL (sumF l 65535 : Nat) 16)) := ref_Bits_eq _ 16 k (by decide) (by decide) (by omega)
  unfold plaitingref2_Wrap.f wrapL
  rw [ref_Sum_eq l h (by omega) k hk, Option.bind_some, hb, Option.bind_some, if_pos (by omega), S_append, if_pos (by omega), show (⟨#[35]⟩ : ByteArray) = S [35] from rfl, S_append]
theorem known2 (k : Nat) (hk : 1010 ≤ k) : plaitinglaw2_known.f k = some true := by
  unfold plaitinglaw2_known.f
  have h1 : crc_Sum.f (⟨#[]⟩ : ByteArray) = some 65535 := crc_Sum_eq [] (fun c h => by simp at h)
  have h2 : crc_Wrap.f k (⟨#[]⟩ : ByteArray) = some (S (wrapL [] ++ [35])) := crc_Wrap_eq [] (fun c h => by simp at h) (by decide) k hk
  rw [h1, Option.bind_some, if_pos rfl, h2, Option.bind_some, S_list]
  decide +kernel

/-! ### what is taken of a text -/
/-- A whole text is bits and a tail. -/
theorem whole_bits : ∀ l : List UInt8, wholeL l = true → ∃ w, isBits w ∧ l = w ++ [35]
  | [], h => absurd h (by decide)
  | c :: l, h => by
    unfold wholeL at h
    rw [Bool.and_eq_true] at h
    have hc := beq_iff_eq.1 h.2
    rw [cleanL_cons] at hc
    by_cases h1 : c.toNat = 35
    · rw [if_pos h1] at hc
      have hl : l = [] := (List.cons.inj hc).2.symm
      subst hl
      exact ⟨[], fun c h => by simp at h, by rw [show c = 35 from u8_eq h1]; rfl⟩
    · rw [if_neg h1] at hc
      by_cases h2 : c.toNat = 48 ∨ c.toNat = 49
      · rw [if_pos h2] at hc
        have hl : cleanL l = l := (List.cons.inj hc).2
        have h0 : 0 < l.length := by
          refine Nat.pos_of_ne_zero fun e => ?_
          have : l = [] := List.eq_nil_of_length_eq_zero e
          subst this
          have := List.cons.inj (beq_iff_eq.1 h.1)
          exact h1 (by rw [this.1]; rfl)
        have hw : wholeL l = true := by
          unfold wholeL
          rw [hl, beq_self_eq_true, Bool.and_true]
          have := h.1
          rw [List.length_cons, show l.length + 1 - 1 = l.length - 1 + 1 by omega, List.drop_succ_cons] at this
          exact this
        obtain ⟨w, hb, e⟩ := whole_bits l hw
        refine ⟨c :: w, fun x hx => ?_, by rw [e]; rfl⟩
        rcases List.mem_cons.1 hx with rfl | hx
        · exact h2
        · exact hb x hx
      · rw [if_neg h2] at hc
        exact absurd hc (by simp)
theorem bits_clean : ∀ w : List UInt8, isBits w → cleanL (w ++ [35]) = w ++ [35]
  | [], _ => by decide
  | c :: w, h => by
    have hc := h c (List.mem_cons_self ..)
    show cleanL (c :: (w ++ [35])) = _
    rw [cleanL_cons, if_neg (by omega), if_pos hc, bits_clean w fun x hx => h x (List.mem_cons_of_mem _ hx)]
    rfl
theorem bits_whole (w : List UInt8) (h : isBits w) : wholeL (w ++ [35]) = true := by
  unfold wholeL
  rw [bits_clean w h, beq_self_eq_true, Bool.and_true, List.length_append, List.length_singleton, Nat.add_sub_cancel, List.drop_left]
  rfl
/-- Of bits and a tail. -/
def openW (w : List UInt8) : ByteArray × Int :=
  if w.length < 16 then (S [], 3) else if syn w = 0 then (S (w.take (w.length - 16)), 0) else (S [], 5)
theorem open_parts (w : List UInt8) (h16 : ¬ w.length < 16) :
    (S (w ++ [35])).extract 0 (((w.length - 16 : Nat) : Int)).toNat = S (w.take (w.length - 16)) ∧ (S (w ++ [35])).extract (((w.length - 16 : Nat) : Int)).toNat ((w.length : Nat) : Int).toNat = S (w.drop (w.length - 16)) := by
  rw [Int.toNat_natCast, Int.toNat_natCast, S_take, S_extract]
  constructor
  · rw [List.take_append_of_le_length (by omega)]
  · rw [List.drop_append_of_le_length (by omega), List.take_append_of_le_length (by rw [List.length_drop]; omega), List.take_of_length_le (by rw [List.length_drop]; omega)]
theorem crc_Open_bits (w : List UInt8) (h : isBits w) (hl : w.length ≤ 900) (k : Nat) (hk : 1010 ≤ k) : crc_Open.f k (S (w ++ [35])) = some (openW w) := by
  have z := S_size (w ++ [35])
  rw [List.length_append, List.length_singleton] at z
  unfold crc_Open.f openW
  rw [sym_Whole_eq _ (by rw [List.length_append]; simp; omega), Option.bind_some, bits_whole w h, if_pos rfl]
  have e1 : wrap64 (((S (w ++ [35])).size : Int) - 1) = ((w.length : Nat) : Int) := by
    rw [w64 _ (by omega) (by omega)]; omega
  by_cases h16 : w.length < 16
  · have e2 : wrap64 (((w.length : Nat) : Int) - 16) < 0 := by rw [w64 _ (by omega) (by omega)]; omega
    rw [e1, if_pos e2, if_pos h16]
  · have e2 : wrap64 (((w.length : Nat) : Int) - 16) = ((w.length - 16 : Nat) : Int) := by rw [w64 _ (by omega) (by omega)]; omega
    have ht : isBits (w.take (w.length - 16)) := fun c hc => h c (List.mem_of_mem_take hc)
    have hb : ∀ n : Int, sym_Bits.f k n 16 = some (S (bitL n 16)) := fun n => sym_Bits_eq n 16 k (by decide) (by decide) (by omega)
    rw [e1, e2]
    clear e1 e2
    rw [if_neg (by omega), if_pos (by omega), if_pos (by omega), (open_parts w h16).1, crc_Sum_eq _ ht, Option.bind_some, hb, Option.bind_some, if_pos (by omega), if_pos (by omega), (open_parts w h16).2,
      S_list, S_list, if_neg h16]
    have hk2 := taken_iff w (w.length - 16) h (by omega)
    by_cases hs : syn w = 0
    · rw [if_pos hs, if_pos (hk2.2 hs)]
    · rw [if_neg hs, if_neg fun e => hs (hk2.1 e)]
theorem ref_Open_bits (w : List UInt8) (h : isBits w) (hl : w.length ≤ 900) (k : Nat) (hk : 1010 ≤ k) : plaitingref2_Open.f k (S (w ++ [35])) = some (openW w) := by
  have z := S_size (w ++ [35])
  rw [List.length_append, List.length_singleton] at z
  unfold plaitingref2_Open.f openW
  rw [ref_Whole_eq _ (by rw [List.length_append]; simp; omega) k hk, Option.bind_some, bits_whole w h, if_pos rfl]
  have e1 : wrap64 (((S (w ++ [35])).size : Int) - 1) = ((w.length : Nat) : Int) := by
    rw [w64 _ (by omega) (by omega)]; omega
  by_cases h16 : w.length < 16
  · have e2 : wrap64 (((w.length : Nat) : Int) - 16) < 0 := by rw [w64 _ (by omega) (by omega)]; omega
    rw [e1, if_pos e2, if_pos h16]
  · have e2 : wrap64 (((w.length : Nat) : Int) - 16) = ((w.length - 16 : Nat) : Int) := by rw [w64 _ (by omega) (by omega)]; omega
    have ht : isBits (w.take (w.length - 16)) := fun c hc => h c (List.mem_of_mem_take hc)
    have hb : ∀ n : Int, plaitingref1_Bits.f k n 16 = some (S (bitL n 16)) := fun n => ref_Bits_eq n 16 k (by decide) (by decide) (by omega)
    rw [e1, e2]
    clear e1 e2
    rw [if_neg (by omega), if_pos (by omega), if_pos (by omega), if_pos (by omega), if_pos (by omega), (open_parts w h16).1, ref_Sum_eq _ ht (by rw [List.length_take]; omega) k hk, Option.bind_some, hb, Option.bind_some, (open_parts w h16).2,
      S_list, S_list, if_neg h16]
    have hk2 := taken_iff w (w.length - 16) h (by omega)
    by_cases hs : syn w = 0
    · rw [if_pos hs, if_pos (hk2.2 hs).symm]
    · rw [if_neg hs, if_neg fun e => hs (hk2.1 e.symm)]
/-- Of any text. -/
theorem open_both (l : List UInt8) (hl : l.length ≤ 900) (k : Nat) (hk : 1010 ≤ k) : ∃ r, crc_Open.f k (S l) = some r ∧ plaitingref2_Open.f k (S l) = some r ∧ (wholeL l = false → r = (S [], 4)) := by
  cases hw : wholeL l with
  | true =>
    obtain ⟨w, hb, rfl⟩ := whole_bits l hw
    rw [List.length_append, List.length_singleton] at hl
    exact ⟨openW w, crc_Open_bits w hb (by omega) k hk, ref_Open_bits w hb (by omega) k hk, fun h => absurd h (by decide)⟩
  | false =>
    refine ⟨(S [], 4), ?_, ?_, fun _ => rfl⟩
    · unfold crc_Open.f
      rw [sym_Whole_eq l (by omega), Option.bind_some, hw, if_neg (by decide)]
    · unfold plaitingref2_Open.f
      rw [ref_Whole_eq l (by omega) k hk, Option.bind_some, hw, if_neg (by decide)]

/-! ### the statements' bits -/
theorem lawBits_loop (ns : List Int) : ∀ (d i : Nat) (acc : List UInt8), i + d = min ns.length 80 → isBits acc → acc.length ≤ 3 * i →
    ∃ l, isBits l ∧ l.length ≤ 240 ∧ ∀ k, 2 * d + 200 ≤ k → plaitinglaw2_Bits.l0 k ns (S acc) i = some (S l) := by
  intro d
  induction d with
  | zero =>
    intro i acc hi hb hl
    refine ⟨acc, hb, by omega, fun k hk => ?_⟩
    obtain ⟨k, rfl⟩ : ∃ q, k = q + 1 + 1 := ⟨k - 2, by omega⟩
    simp only [plaitinglaw2_Bits.l0, plaitinglaw2_Bits.j1]
    split
    · have : decide ((i : Int) < 80) = false := by simp; omega
      rw [this, if_neg (by decide)]
    · rw [if_neg (by decide)]
  | succ d ih =>
    intro i acc hi hb hl
    have hil : i < ns.length := by omega
    have hrd : rd ns (i : Int) = ns[i] := by
      unfold rd
      simp [List.getD_eq_getElem?_getD, List.getElem?_eq_getElem hil]
    obtain ⟨m, hm, hm3⟩ : ∃ m : Nat, plaitinglaw2_within.f (wrap64 (Int.tdiv ns[i] 2)) 3 = some (m : Int) ∧ m < 3 := within2_nat _ 3 (by decide) (by decide)
    have hbl := bitL_length ns[i] (1 + m)
    have hbb := bitL_bits ns[i] (1 + m)
    obtain ⟨l, h1, h2, h3⟩ := ih (i + 1) (acc ++ bitL ns[i] (1 + m)) (by omega) (by
      intro c hc
      rcases List.mem_append.1 hc with hc | hc
      · exact hb c hc
      · exact hbb c hc) (by rw [List.length_append, hbl]; omega)
    refine ⟨l, h1, h2, fun k hk => ?_⟩
    obtain ⟨k, rfl⟩ : ∃ q, k = q + 1 + 1 := ⟨k - 2, by omega⟩
    have hgo := h3 k (by omega)
    have hd : decide ((i : Int) < 80) = true := by simp; omega
    have hi4 : i ≤ 4611686018427387904 := by omega
    have hz1 := S_size acc
    have hz2 := S_size (bitL ns[i] (1 + m))
    have hsum : (S acc).size + (S (bitL ns[i] (1 + m))).size ≤ 9223372036854775807 := by omega
    have hbits := ref_Bits_eq ns[i] (1 + m) k (by omega) (by omega) (by omega)
    have hwm : wrap64 (1 + (m : Int)) = ((1 + m : Nat) : Int) := by rw [w64 _ (by omega) (by omega)]; omega
    simp only [plaitinglaw2_Bits.l0, plaitinglaw2_Bits.j1]
    rw [if_pos (Int.ofNat_lt.2 hil), hd, if_pos rfl, if_pos (Int.natCast_nonneg i), if_pos (Int.ofNat_lt.2 hil), hrd, hm, Option.bind_some, hwm, hbits, Option.bind_some, if_pos hsum, S_append, w64_succ i hi4]
    exact hgo
theorem lawBits (ns : List Int) : ∃ l, isBits l ∧ l.length ≤ 240 ∧ ∀ k, 400 ≤ k → plaitinglaw2_Bits.f k ns = some (S l) := by
  obtain ⟨l, h1, h2, h3⟩ := lawBits_loop ns (min ns.length 80) 0 [] (by omega) (fun c h => by simp at h) (by decide)
  exact ⟨l, h1, h2, fun k hk => by unfold plaitinglaw2_Bits.f; exact h3 k (by omega)⟩
theorem openW_wrap (l : List UInt8) : openW (wrapL l) = (S l, 0) := by
  have h16 : ¬ (wrapL l).length < 16 := by rw [wrapL_length]; omega
  unfold openW
  rw [if_neg h16, if_pos (show syn (wrapL l) = 0 from syn_wrap l), wrapL_length, Nat.add_sub_cancel]
  unfold wrapL
  rw [List.take_left]
theorem openW_no (w : List UInt8) (h : 16 ≤ w.length) (hs : syn w ≠ 0) : openW w = (S [], 5) := by
  unfold openW
  rw [if_neg (by omega), if_neg hs]
theorem turnL_tail (w : List UInt8) (j : Nat) (h : j < w.length) : turnL (w ++ [35]) j = turnL w j ++ [35] := by
  have hg : (w ++ [35]).getD j 0 = w.getD j 0 := by
    rw [List.getD_eq_getElem?_getD, List.getD_eq_getElem?_getD, List.getElem?_append_left h]
  unfold turnL
  rw [hg, List.set_append_left _ _ h]
end Go.Proofs.Ytnggjnhfdjjphaa.Pure
