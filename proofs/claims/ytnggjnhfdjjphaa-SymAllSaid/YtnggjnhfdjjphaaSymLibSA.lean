/- What the symbols' functions answer, as lists of bytes. -/
import Derived.Test.YtnggjnhfdjjphaaBytesSA
import Derived.Test.YtnggjnhfdjjphaaPSAx1
import Derived.Test.YtnggjnhfdjjphaaPSAx10
import Derived.Test.YtnggjnhfdjjphaaPSAx11
import Derived.Test.YtnggjnhfdjjphaaPSAx12
import Derived.Test.YtnggjnhfdjjphaaPSAx13
import Derived.Test.YtnggjnhfdjjphaaPSAx2
import Derived.Test.YtnggjnhfdjjphaaPSAx3
import Derived.Test.YtnggjnhfdjjphaaPSAx4
import Derived.Test.YtnggjnhfdjjphaaPSAx5
import Derived.Test.YtnggjnhfdjjphaaPSAx6
import Derived.Test.YtnggjnhfdjjphaaPSAx7
import Derived.Test.YtnggjnhfdjjphaaPSAx8
import Derived.Test.YtnggjnhfdjjphaaPSAx9
namespace Go.Proofs.Ytnggjnhfdjjphaa.Pure
open Go.RowKit Go.Proofs.Ytnggjnhfdjjphaa.PSA Go.Proofs.YtnggjnhfdjjphaaW.PrintWords Go.Proofs.YtnggjnhfdjjphaaW.PrintLast Go.Proofs.YtnggjnhfdjjphaaW.PrintMore

theorem within1 (a n : Int) (hn : 0 < n) (hb : n ≤ 4611686018427387904) : plaitinglaw1_within.f a n = some (a % n) := within_eq a n hn hb

/-! ### numbers as bits -/
/-- A bit's sign. -/
def bitC (b : Int) : UInt8 := if b = 1 then 49 else 48
def bitL (n : Int) : Nat → List UInt8
  | 0 => []
  | m + 1 => bitC (n / 2 ^ m % 2) :: bitL n m
theorem bitL_length (n : Int) : ∀ m, (bitL n m).length = m
  | 0 => rfl
  | m + 1 => by rw [bitL, List.length_cons, bitL_length n m]
theorem bitL_get (n : Int) : ∀ (m i : Nat) (h : i < m), (bitL n m)[i]'(by rw [bitL_length]; exact h) = bitC (n / 2 ^ (m - 1 - i) % 2)
  | m + 1, 0, _ => by simp [bitL]
  | m + 1, i + 1, h => by
    have := bitL_get n m i (by omega)
    simp only [bitL, List.getElem_cons_succ, this]
    congr 4
    omega
theorem bitC_bit (b : Int) : (bitC b).toNat = 48 ∨ (bitC b).toNat = 49 := by
  unfold bitC
  split
  · exact .inr rfl
  · exact .inl rfl
def isBits (l : List UInt8) : Prop := ∀ c ∈ l, c.toNat = 48 ∨ c.toNat = 49
theorem bitL_bits (n : Int) : ∀ m, isBits (bitL n m)
  | 0 => fun c h => by simp [bitL] at h
  | m + 1 => fun c h => by
    rcases List.mem_cons.1 h with rfl | h
    · exact bitC_bit _
    · exact bitL_bits n m c h

theorem sym_Bits_loop (n : Int) (m : Nat) (hm : m ≤ 62) (h0 : 0 < m) : ∀ (d k i : Nat) (xs : List Int), i + d = m → xs.length = m → d < k →
    (xs.take i).map (fun n => UInt8.ofNat n.toNat) = (bitL n m).take i →
    sym_Bits.l0 k n m xs m i = some (S (bitL n m)) := by
  intro d
  induction d with
  | zero =>
    intro k i xs hi hl hk hx
    obtain ⟨k, rfl⟩ : ∃ q, k = q + 1 := ⟨k - 1, by omega⟩
    simp only [sym_Bits.l0]
    rw [if_neg (by omega)]
    rw [List.take_of_length_le (by omega), List.take_of_length_le (by rw [bitL_length]; omega)] at hx
    congr 1
    unfold strOfNums
    rw [hx]
  | succ d ih =>
    intro k i xs hi hl hk hx
    obtain ⟨k, rfl⟩ : ∃ q, k = q + 1 := ⟨k - 1, by omega⟩
    simp only [sym_Bits.l0]
    have e1 : wrap64 ((m : Int) - 1) = (m : Int) - 1 := w64 _ (by omega) (by omega)
    have e2 : wrap64 ((m : Int) - 1 - (i : Int)) = ((m - 1 - i : Nat) : Int) := by rw [w64 _ (by omega) (by omega)]; omega
    have e3 : wrap64 ((i : Int) + 1) = ((i + 1 : Nat) : Int) := by rw [w64 _ (by omega) (by omega)]; omega
    have e4 : shr .i64 n ((m - 1 - i : Nat) : Int) = n / 2 ^ (m - 1 - i) := by
      unfold shr
      rw [Nat.min_eq_left (by simp [IntKind.bits]; omega)]
      simp
    rw [if_pos (by omega), e1, e2, if_pos (by omega), if_pos (by omega), if_pos (by omega), e3, e4, and_one]
    refine ih k (i + 1) _ (by omega) (by rw [List.length_set]; exact hl) (by omega) ?_
    have hb : n / 2 ^ (m - 1 - i) % 2 = 0 ∨ n / 2 ^ (m - 1 - i) % 2 = 1 := by omega
    have hR : (bitL n m).take (i + 1) = (xs.take i).map (fun n => UInt8.ofNat n.toNat) ++ [bitC (n / 2 ^ (m - 1 - i) % 2)] := by
      rw [List.take_succ_eq_append_getElem (by rw [bitL_length]; omega), ← hx, bitL_get n m i (by omega)]
    rw [hR]
    rw [List.take_succ_eq_append_getElem (by rw [List.length_set]; omega)]
    have ei : ((i : Nat) : Int).toNat = i := by simp
    rw [ei, List.take_set_of_le (Nat.le_refl _), List.map_append, List.getElem_set_self]
    congr 1
    rcases hb with h | h <;> rw [h] <;> simp [bitC, wrap64]
theorem sym_Bits_eq (n : Int) (m : Nat) (k : Nat) (h0 : 0 < m) (hm : m ≤ 62) (hk : 70 ≤ k) : sym_Bits.f k n m = some (S (bitL n m)) := by
  obtain ⟨k, rfl⟩ : ∃ q, k = q + 1 := ⟨k - 1, by omega⟩
  unfold sym_Bits.f
  rw [if_neg (by omega)]
  have e : decide ((m : Int) > 62) = false := by simp; omega
  rw [e]
  simp only [sym_Bits.j0]
  rw [if_neg (by decide), if_pos (by omega), if_pos (by simp; omega)]
  simp only [Option.bind_some]
  have el : ((List.replicate (m : Int).toNat 0 : List Int).length : Int) = (m : Int) := by simp
  rw [el]
  exact sym_Bits_loop n m hm h0 m k 0 _ (by omega) (by simp) (by omega) rfl
theorem sym_Bits_none (n size : Int) (k : Nat) (hk : 1 ≤ k) (h : size < 1 ∨ 62 < size) : sym_Bits.f k n size = some (S []) := by
  obtain ⟨k, rfl⟩ : ∃ q, k = q + 1 := ⟨k - 1, by omega⟩
  unfold sym_Bits.f
  split
  · simp only [sym_Bits.j0]; rfl
  · have e : decide (size > 62) = true := by simp; omega
    rw [e]
    simp only [sym_Bits.j0]; rfl

theorem ref_Bits_loop (n : Int) : ∀ (m k : Nat) (acc : List UInt8), m ≤ 62 → acc.length + m ≤ 62 → m < k →
    plaitingref1_Bits.l0 k n (S acc) ((m : Int) - 1) = some (S (acc ++ bitL n m)) := by
  intro m
  induction m with
  | zero =>
    intro k acc h1 h2 hk
    obtain ⟨k, rfl⟩ : ∃ q, k = q + 1 := ⟨k - 1, by omega⟩
    simp only [plaitingref1_Bits.l0]
    rw [if_neg (by omega), bitL, List.append_nil]
  | succ m ih =>
    intro k acc h1 h2 hk
    obtain ⟨k, rfl⟩ : ∃ q, k = q + 1 := ⟨k - 1, by omega⟩
    simp only [plaitingref1_Bits.l0]
    have e0 : ((m + 1 : Nat) : Int) - 1 = (m : Int) := by omega
    have e1 : IntKind.u64.wrap (m : Int) = (m : Int) := by rw [IntKind.wrap_u64]; omega
    have e2 : wrap64 ((m : Int) - 1) = (m : Int) - 1 := w64 _ (by omega) (by omega)
    have e4 : shr .i64 n (m : Int) = n / 2 ^ m := by
      unfold shr
      rw [Nat.min_eq_left (by simp [IntKind.bits]; omega)]
      simp
    have hz : (S acc).size = acc.length := S_size acc
    rw [e0, if_pos (by omega), e1, if_pos (by omega), e4, and_one, e2]
    have hb : n / 2 ^ m % 2 = 0 ∨ n / 2 ^ m % 2 = 1 := by omega
    rcases hb with h | h
    · rw [if_neg (by omega), if_pos (by omega)]
      have := ih k (acc ++ [48]) (by omega) (by simp; omega) (by omega)
      rw [bitL, h]
      rw [show (⟨#[48]⟩ : ByteArray) = S [48] from rfl, S_append, this, List.append_assoc]
      rfl
    · rw [if_pos h, if_pos (by omega)]
      have := ih k (acc ++ [49]) (by omega) (by simp; omega) (by omega)
      rw [bitL, h]
      rw [show (⟨#[49]⟩ : ByteArray) = S [49] from rfl, S_append, this, List.append_assoc]
      rfl
theorem ref_Bits_eq (n : Int) (m : Nat) (k : Nat) (h0 : 0 < m) (hm : m ≤ 62) (hk : 70 ≤ k) : plaitingref1_Bits.f k n m = some (S (bitL n m)) := by
  obtain ⟨k, rfl⟩ : ∃ q, k = q + 1 := ⟨k - 1, by omega⟩
  unfold plaitingref1_Bits.f
  rw [if_neg (by omega)]
  have e : decide ((m : Int) > 62) = false := by simp; omega
  rw [e]
  simp only [plaitingref1_Bits.j0]
  rw [if_neg (by decide), w64 _ (by omega) (by omega)]
  exact ref_Bits_loop n m k [] hm (by simpa using hm) (by omega)
theorem ref_Bits_none (n size : Int) (k : Nat) (hk : 1 ≤ k) (h : size < 1 ∨ 62 < size) : plaitingref1_Bits.f k n size = some (S []) := by
  obtain ⟨k, rfl⟩ : ∃ q, k = q + 1 := ⟨k - 1, by omega⟩
  unfold plaitingref1_Bits.f
  split
  · simp only [plaitingref1_Bits.j0]; rfl
  · have e : decide (size > 62) = true := by simp; omega
    rw [e]
    simp only [plaitingref1_Bits.j0]; rfl

/-! ### what bits mean -/
theorem numGo_none : ∀ (l : List UInt8) (v : Nat), ¬ isBits l → numGo v l = none
  | [], v, h => absurd (fun c hc => by simp at hc) h
  | c :: l, v, h => by
    rw [numGo]
    split
    · rename_i hc
      refine numGo_none l _ fun hl => h fun x hx => ?_
      rcases List.mem_cons.1 hx with rfl | hx
      · exact hc
      · exact hl x hx
    · rfl
/-- A row of bits' number, behind one that was read. -/
def val : List UInt8 → Nat → Nat
  | [], v => v
  | c :: l, v => val l (2 * v + (c.toNat - 48))
theorem numGo_val : ∀ (l : List UInt8) (v : Nat), isBits l → numGo v l = some (val l v)
  | [], v, h => rfl
  | c :: l, v, h => by
    rw [numGo, if_pos (h c (List.mem_cons_self ..)), val]
    exact numGo_val l _ fun x hx => h x (List.mem_cons_of_mem _ hx)
theorem val_lt : ∀ (l : List UInt8) (v n : Nat), isBits l → v < 2 ^ n → val l v < 2 ^ (n + l.length)
  | [], v, n, _, h => h
  | c :: l, v, n, hb, h => by
    have hc := hb c (List.mem_cons_self ..)
    have := val_lt l (2 * v + (c.toNat - 48)) (n + 1) (fun x hx => hb x (List.mem_cons_of_mem _ hx)) (by rw [Nat.pow_succ]; omega)
    rw [val, List.length_cons]
    rw [show n + (l.length + 1) = n + 1 + l.length by omega]
    exact this
theorem emod_double (n P : Int) (hP : 0 < P) : n % (P * 2) = n % P + P * (n / P % 2) := by
  have h1 := Int.mul_ediv_add_emod n P
  have h2 := Int.mul_ediv_add_emod (n / P) 2
  have h3 := Int.emod_nonneg n (show P ≠ 0 by omega)
  have h4 := Int.emod_lt_of_pos n hP
  have hq : n / P % 2 = 0 ∨ n / P % 2 = 1 := by omega
  have e : n = (n % P + P * (n / P % 2)) + (P * 2) * (n / P / 2) := by
    have h5 : P * (n / P) = P * (2 * (n / P / 2) + n / P % 2) := by rw [h2]
    rw [Int.mul_add, ← Int.mul_assoc] at h5
    omega
  have h6 : (n % P + P * (n / P % 2) + (P * 2) * (n / P / 2)) % (P * 2) = (n % P + P * (n / P % 2)) % (P * 2) := Int.add_mul_emod_self_left ..
  have h7 : (n % P + P * (n / P % 2)) % (P * 2) = n % P + P * (n / P % 2) := by
    rcases hq with h | h <;> rw [h]
    · rw [Int.mul_zero]
      exact Int.emod_eq_of_lt (by omega) (by omega)
    · rw [Int.mul_one]
      exact Int.emod_eq_of_lt (by omega) (by omega)
  rw [← h7, ← h6, ← e]
theorem two_pow_pos (m : Nat) : (0 : Int) < 2 ^ m := Int.pow_pos (by decide)
theorem val_bitL (n : Int) : ∀ (m v : Nat), (val (bitL n m) v : Int) = v * 2 ^ m + n % 2 ^ m
  | 0, v => by simp [bitL, val, Int.emod_one]
  | m + 1, v => by
    rw [bitL, val, val_bitL n m]
    have hb : n / 2 ^ m % 2 = 0 ∨ n / 2 ^ m % 2 = 1 := by omega
    have hbit : (((bitC (n / 2 ^ m % 2)).toNat - 48 : Nat) : Int) = n / 2 ^ m % 2 := by
      rcases hb with h | h <;> rw [h] <;> rfl
    have hs : n % 2 ^ (m + 1) = n % 2 ^ m + 2 ^ m * (n / 2 ^ m % 2) := by
      rw [Int.pow_succ]
      exact emod_double n _ (two_pow_pos m)
    rw [hs]
    have e : ((2 * v + ((bitC (n / 2 ^ m % 2)).toNat - 48) : Nat) : Int) = 2 * (v : Int) + n / 2 ^ m % 2 := by
      rw [Int.natCast_add, hbit]
      omega
    rw [e, Int.pow_succ, Int.add_mul, Int.mul_comm (n / 2 ^ m % 2)]
    have : 2 * (v : Int) * 2 ^ m = v * (2 ^ m * 2) := by
      rw [Int.mul_comm 2 (v : Int), Int.mul_assoc, Int.mul_comm 2]
    omega
theorem sym_Num_bits (l : List UInt8) (h : isBits l) (h0 : 0 < l.length) (h1 : l.length ≤ 62) : sym_Num.f (S l) = some ((val l 0 : Int), true) := by
  unfold sym_Num.f numOf
  rw [S_data, if_neg (by omega), numGo_val l 0 h]
  rfl
theorem sym_Num_eq (l : List UInt8) : sym_Num.f (S l) = some (numOf l) := by
  unfold sym_Num.f
  rw [S_data]
theorem ref_Num_loop (l : List UInt8) (hl : l.length ≤ 62) : ∀ (d k i v : Nat), i + d = l.length → 2 * d < k → v < 2 ^ i →
    plaitingref1_Num.l0 k (S l) v i = some (numEnd (numGo v (l.drop i))) := by
  intro d
  induction d with
  | zero =>
    intro k i v hi hk hv
    obtain ⟨k, rfl⟩ : ∃ q, k = q + 1 := ⟨k - 1, by omega⟩
    simp only [plaitingref1_Num.l0]
    rw [if_neg (by rw [S_size]; omega), List.drop_of_length_le (by omega)]
    rfl
  | succ d ih =>
    intro k i v hi hk hv
    obtain ⟨k, rfl⟩ : ∃ q, k = q + 1 + 1 := ⟨k - 2, by omega⟩
    have hil : i < l.length := by omega
    have hv2 : v < 4611686018427387904 := Nat.lt_of_lt_of_le hv (Nat.le_trans (Nat.pow_le_pow_right (by decide) (show i ≤ 62 by omega)) (by decide))
    have hz := S_size l
    have hb := S_bt l i hil
    have e1 : wrap64 ((i : Int) + 1) = ((i + 1 : Nat) : Int) := by rw [w64 _ (by omega) (by omega)]; omega
    have e2 : wrap64 (2 * (v : Int)) = ((2 * v : Nat) : Int) := by rw [w64 _ (by omega) (by omega)]; omega
    have e3 : wrap64 (((2 * v : Nat) : Int) + 1) = ((2 * v + 1 : Nat) : Int) := by rw [w64 _ (by omega) (by omega)]; omega
    rw [List.drop_eq_getElem_cons hil, numGo]
    simp only [plaitingref1_Num.l0]
    rw [if_pos (by omega), if_pos (by omega), hb]
    by_cases h48 : (l[i]'hil).toNat = 48
    · rw [if_pos (by omega), if_pos (.inl h48)]
      simp only [plaitingref1_Num.j2]
      rw [if_neg (by decide), if_pos (by omega), if_pos (by omega), hb, if_neg (by omega), e1, e2, h48]
      exact ih k (i + 1) (2 * v) (by omega) (by omega) (by rw [Nat.pow_succ]; omega)
    · rw [if_neg (by omega)]
      simp only [plaitingref1_Num.j2]
      by_cases h49 : (l[i]'hil).toNat = 49
      · rw [if_neg (by simp; omega), if_pos (by omega), if_pos (by omega), hb, if_pos (by omega), e1, e2, e3, if_pos (.inr h49), h49]
        exact ih k (i + 1) (2 * v + 1) (by omega) (by omega) (by rw [Nat.pow_succ]; omega)
      · rw [if_pos (by simp; omega), if_neg (by omega)]
        rfl
theorem ref_Num_eq (l : List UInt8) (k : Nat) (hk : 200 ≤ k) : plaitingref1_Num.f k (S l) = some (numOf l) := by
  obtain ⟨k, rfl⟩ : ∃ q, k = q + 1 := ⟨k - 1, by omega⟩
  have hz := S_size l
  unfold plaitingref1_Num.f numOf
  by_cases h0 : l.length = 0
  · rw [if_pos (by omega), if_pos (.inl h0)]
    simp only [plaitingref1_Num.j0]
    rfl
  · rw [if_neg (by omega)]
    by_cases h1 : 62 < l.length
    · have e : decide (((S l).size : Int) > 62) = true := by simp; omega
      rw [e, if_pos (.inr h1)]
      simp only [plaitingref1_Num.j0]
      rfl
    · have e : decide (((S l).size : Int) > 62) = false := by simp; omega
      rw [e, if_neg (by omega)]
      simp only [plaitingref1_Num.j0]
      rw [if_neg (by decide)]
      exact ref_Num_loop l (by omega) l.length k 0 0 (by omega) (by omega) (by decide)

/-! ### texts by numbers -/
def symC (n : Int) : UInt8 := [48, 49, 48, 49, 48, 49, 48, 49, 35, 46, 120].getD (n % 11).toNat 0
def textL (ns : List Int) : List UInt8 := (ns.take 80).map symC
theorem textL_len (ns : List Int) : (textL ns).length ≤ 80 := by
  unfold textL
  rw [List.length_map, List.length_take]
  omega
theorem text_loop (ns : List Int) : ∀ (d k i : Nat), i + d = min ns.length 80 → d < k →
    plaitinglaw1_Text.l0 k ns (S ((ns.take i).map symC)) i = some (S (textL ns)) := by
  intro d
  induction d with
  | zero =>
    intro k i hi hk
    obtain ⟨k, rfl⟩ : ∃ q, k = q + 1 := ⟨k - 1, by omega⟩
    simp only [plaitinglaw1_Text.l0]
    have e : ns.take i = ns.take 80 := by
      by_cases h : ns.length ≤ 80
      · rw [List.take_of_length_le (by omega), List.take_of_length_le h]
      · rw [show i = 80 by omega]
    rw [e]
    unfold textL
    split
    · rw [if_neg (by omega)]
    · rfl
  | succ d ih =>
    intro k i hi hk
    obtain ⟨k, rfl⟩ : ∃ q, k = q + 1 := ⟨k - 1, by omega⟩
    simp only [plaitinglaw1_Text.l0]
    have hil : i < ns.length := by omega
    have e1 : wrap64 ((i : Int) + 1) = ((i + 1 : Nat) : Int) := by rw [w64 _ (by omega) (by omega)]; omega
    have hrd : rd ns (i : Int) = ns[i] := by
      unfold rd
      simp [List.getD_eq_getElem?_getD, List.getElem?_eq_getElem hil]
    have h1 := Int.emod_nonneg ns[i] (show (11 : Int) ≠ 0 by decide)
    have h2 := Int.emod_lt_of_pos ns[i] (show (0 : Int) < 11 by decide)
    rw [if_pos (by omega), if_pos (by omega), Option.bind_some, if_pos (by omega), hrd, within1 _ 11 (by decide) (by decide), Option.bind_some, if_pos h1, if_pos (by simpa using h2)]
    have hsym : rdOf ByteArray.empty ([(⟨#[48]⟩ : ByteArray), (⟨#[49]⟩ : ByteArray), (⟨#[48]⟩ : ByteArray), (⟨#[49]⟩ : ByteArray), (⟨#[48]⟩ : ByteArray), (⟨#[49]⟩ : ByteArray), (⟨#[48]⟩ : ByteArray), (⟨#[49]⟩ : ByteArray), (⟨#[35]⟩ : ByteArray), (⟨#[46]⟩ : ByteArray), (⟨#[120]⟩ : ByteArray)] : List ByteArray) (ns[i] % 11) = S [symC ns[i]] := by
      unfold rdOf symC
      obtain ⟨q, hq⟩ := Int.eq_ofNat_of_zero_le h1
      rw [hq] at h2 ⊢
      have hq11 : q < 11 := by omega
      rw [Int.toNat_natCast]
      clear hq h2 h1
      match q, hq11 with
      | 0, _ | 1, _ | 2, _ | 3, _ | 4, _ | 5, _ | 6, _ | 7, _ | 8, _ | 9, _ | 10, _ => rfl
    rw [hsym, S_append, S_size, S_size, if_pos (by simp; omega), e1]
    have := ih k (i + 1) (by omega) (by omega)
    rw [List.take_succ_eq_append_getElem hil, List.map_append] at this
    exact this
theorem text_eq (ns : List Int) (k : Nat) (hk : 90 ≤ k) : plaitinglaw1_Text.f k ns = some (S (textL ns)) := by
  unfold plaitinglaw1_Text.f
  exact text_loop ns (min ns.length 80) k 0 (by omega) (by omega)

/-! ### streams -/
def cleanL (l : List UInt8) : List UInt8 := l.take (cleanLen l)
theorem sym_Clean_eq (l : List UInt8) (h : l.length ≤ 1000) : sym_Clean.f (S l) = some (S (cleanL l)) := by
  unfold sym_Clean.f cleanL
  rw [S_size, S_data, if_pos (by omega), S_take]
theorem ref_Clean_loop (l : List UInt8) (hl : l.length ≤ 1000) : ∀ (d k i : Nat), i + d = l.length → d < k → cleanLen l = i + cleanLen (l.drop i) →
    plaitingref1_Clean.l0 k (S l) i = some (S (cleanL l)) := by
  intro d
  induction d with
  | zero =>
    intro k i hi hk hc
    obtain ⟨k, rfl⟩ : ∃ q, k = q + 1 := ⟨k - 1, by omega⟩
    simp only [plaitingref1_Clean.l0]
    have hz := S_size l
    rw [if_neg (by omega)]
    unfold cleanL
    rw [List.take_of_length_le (by omega)]
  | succ d ih =>
    intro k i hi hk hc
    obtain ⟨k, rfl⟩ : ∃ q, k = q + 1 := ⟨k - 1, by omega⟩
    have hil : i < l.length := by omega
    have hz := S_size l
    have hb := S_bt l i hil
    have e1 : wrap64 ((i : Int) + 1) = ((i + 1 : Nat) : Int) := by rw [w64 _ (by omega) (by omega)]; omega
    rw [List.drop_eq_getElem_cons hil] at hc
    simp only [cleanLen] at hc
    simp only [plaitingref1_Clean.l0]
    rw [if_pos (by omega), if_pos (by omega), hb, e1]
    unfold plaitingref1_symbol.f
    by_cases h35 : (l[i]'hil).toNat = 35
    · rw [if_neg (by omega), if_neg (by omega), Option.bind_some, if_pos (by simp; omega), if_pos (by omega), if_pos (by omega), if_pos (by omega), Int.toNat_natCast, S_take]
      rw [if_pos h35] at hc
      unfold cleanL
      rw [hc]
    · rw [if_neg h35] at hc
      by_cases h01 : (l[i]'hil).toNat = 48 ∨ (l[i]'hil).toNat = 49
      · rw [if_pos h01] at hc
        have hgo := ih k (i + 1) (by omega) (by omega) (by omega)
        by_cases h48 : (l[i]'hil).toNat = 48
        · rw [if_pos (by omega), Option.bind_some, if_pos rfl, if_neg (by omega)]
          exact hgo
        · rw [if_neg (by omega), if_pos (by omega), Option.bind_some, if_pos rfl, if_neg (by omega)]
          exact hgo
      · rw [if_neg h01] at hc
        rw [if_neg (by omega), if_neg (by omega), Option.bind_some, if_neg (by simp; omega), if_pos (by omega), Int.toNat_natCast, S_take]
        unfold cleanL
        rw [hc]
        rfl
theorem ref_Clean_eq (l : List UInt8) (hl : l.length ≤ 1000) (k : Nat) (hk : 1010 ≤ k) : plaitingref1_Clean.f k (S l) = some (S (cleanL l)) := by
  unfold plaitingref1_Clean.f
  exact ref_Clean_loop l hl l.length k 0 (by omega) (by omega) (by simp)

/-! ### fronts -/
def commonL : List UInt8 → List UInt8 → List UInt8
  | a :: l, b :: m => if a = b then a :: commonL l m else []
  | _, _ => []
theorem commonL_len : ∀ a b : List UInt8, (commonL a b).length ≤ a.length ∧ (commonL a b).length ≤ b.length
  | [], _ => by simp [commonL]
  | _ :: _, [] => by simp [commonL]
  | x :: l, y :: m => by
    have := commonL_len l m
    unfold commonL
    split
    · simp; omega
    · simp
theorem commonL_front : ∀ a b : List UInt8, commonL a b = a.take (commonL a b).length
  | [], _ => by simp [commonL]
  | _ :: _, [] => by simp [commonL]
  | x :: l, y :: m => by
    have := commonL_front l m
    unfold commonL
    split
    · simp; exact this
    · simp
theorem commonL_comm : ∀ a b : List UInt8, commonL a b = commonL b a
  | [], [] => rfl
  | [], _ :: _ => by simp [commonL]
  | _ :: _, [] => by simp [commonL]
  | x :: l, y :: m => by
    unfold commonL
    by_cases h : x = y
    · subst h
      rw [if_pos rfl, if_pos rfl, commonL_comm l m]
    · rw [if_neg h, if_neg (fun e => h e.symm)]
theorem u8_eq {a b : UInt8} (h : a.toNat = b.toNat) : a = b := UInt8.toNat_inj.1 h
theorem common_loop (f : Nat → ByteArray → ByteArray → Int → Option ByteArray)
    (hf : ∀ k x0 x1 x5, f (k + 1) x0 x1 x5 = if x5 < (x0.size : Int) then (if x5 < (x1.size : Int) then (if 0 ≤ x5 then (if (bt x0 x5) = (bt x1 x5) then (f k x0 x1 (wrap64 (x5 + 1))) else (if x5 ≤ (x0.size : Int) then (some (x0.extract 0 (x5 : Int).toNat)) else (none))) else (none)) else (if 0 ≤ x5 then (if x5 ≤ (x0.size : Int) then (some (x0.extract 0 (x5 : Int).toNat)) else (none)) else (none))) else (if 0 ≤ x5 then (if x5 ≤ (x0.size : Int) then (some (x0.extract 0 (x5 : Int).toNat)) else (none)) else (none)))
    (a b : List UInt8) (ha : a.length ≤ 1000) : ∀ (d k i : Nat), i + d = a.length → d < k → (commonL a b).length = i + (commonL (a.drop i) (b.drop i)).length →
    f k (S a) (S b) i = some (S (commonL a b)) := by
  intro d
  induction d with
  | zero =>
    intro k i hi hk hc
    obtain ⟨k, rfl⟩ : ∃ q, k = q + 1 := ⟨k - 1, by omega⟩
    have hz := S_size a
    rw [hf, if_neg (by omega), if_pos (by omega), if_pos (by omega), Int.toNat_natCast, S_take]
    rw [List.drop_of_length_le (by omega)] at hc
    simp [commonL] at hc
    rw [commonL_front a b, hc]
  | succ d ih =>
    intro k i hi hk hc
    obtain ⟨k, rfl⟩ : ∃ q, k = q + 1 := ⟨k - 1, by omega⟩
    have hza := S_size a
    have hzb := S_size b
    have hia : i < a.length := by omega
    have e1 : wrap64 ((i : Int) + 1) = ((i + 1 : Nat) : Int) := by rw [w64 _ (by omega) (by omega)]; omega
    have hba := S_bt a i hia
    rw [hf, if_pos (by omega)]
    by_cases hib : i < b.length
    · have hbb := S_bt b i hib
      rw [List.drop_eq_getElem_cons hia, List.drop_eq_getElem_cons hib] at hc
      have hstep : ∀ (x y : UInt8) (l m : List UInt8), commonL (x :: l) (y :: m) = if x = y then x :: commonL l m else [] := fun _ _ _ _ => rfl
      rw [hstep] at hc
      rw [if_pos (by omega), if_pos (by omega), hba, hbb]
      by_cases e : a[i]'hia = b[i]'hib
      · rw [if_pos (by rw [e]), e1]
        rw [if_pos e] at hc
        refine ih k (i + 1) (by omega) (by omega) ?_
        have h2 : (commonL a b).length = i + ((commonL (a.drop (i + 1)) (b.drop (i + 1))).length + 1) := hc
        omega
      · rw [if_neg (fun h => e (u8_eq (by omega))), if_pos (by omega), Int.toNat_natCast, S_take]
        rw [if_neg e] at hc
        have h2 : (commonL a b).length = i + 0 := hc
        rw [commonL_front a b, h2]
        rfl
    · rw [if_neg (by omega), if_pos (by omega), if_pos (by omega), Int.toNat_natCast, S_take]
      rw [List.drop_of_length_le (l := b) (by omega)] at hc
      have h0 : ∀ l : List UInt8, commonL l [] = [] := fun l => by cases l <;> rfl
      rw [h0] at hc
      have h2 : (commonL a b).length = i + 0 := hc
      rw [commonL_front a b, h2]
      rfl
theorem sym_Common_eq (a b : List UInt8) (ha : a.length ≤ 1000) (k : Nat) (hk : 1010 ≤ k) : sym_Common.f k (S a) (S b) = some (S (commonL a b)) := by
  unfold sym_Common.f
  exact common_loop sym_Common.l0 (fun k x0 x1 x5 => by simp only [sym_Common.l0]) a b ha a.length k 0 (by omega) (by omega) (by simp)
def frontL (a b : List UInt8) : Bool := b.take a.length == a
theorem sym_Front_eq (a b : List UInt8) : sym_Front.f (S a) (S b) = some (frontL a b) := by
  have hza := S_size a
  have hzb := S_size b
  unfold sym_Front.f strings_HasPrefix.f stringslite_HasPrefix.f frontL
  by_cases h : a.length ≤ b.length
  · rw [if_pos (by omega), if_pos (by omega), if_pos (by omega), hza, Int.toNat_natCast, S_take, S_list, S_list]
    rfl
  · rw [if_neg (by omega)]
    simp only [Option.bind_some, Option.some.injEq]
    symm
    rw [beq_eq_false_iff_ne]
    intro e
    have := congrArg List.length e
    rw [List.length_take] at this
    omega
def wholeL (l : List UInt8) : Bool := l.drop (l.length - 1) == [35] && cleanL l == l
theorem sym_Whole_eq (l : List UInt8) (h : l.length ≤ 1000) : sym_Whole.f (S l) = some (wholeL l) := by
  have hz := S_size l
  have hc := sym_Clean_eq l h
  unfold sym_Whole.f strings_HasSuffix.f stringslite_HasSuffix.f wholeL
  have h1 : (⟨#[35]⟩ : ByteArray).size = 1 := rfl
  by_cases h0 : 1 ≤ l.length
  · have e1 : wrap64 (((S l).size : Int) - ((⟨#[35]⟩ : ByteArray).size : Int)) = ((l.length - 1 : Nat) : Int) := by
      rw [w64 _ (by omega) (by omega)]; omega
    rw [if_pos (by omega), e1, if_pos (by omega), if_pos (by omega), Int.toNat_natCast, S_extract, hz, S_list]
    have e2 : (l.drop (l.length - 1)).take (l.length - (l.length - 1)) = l.drop (l.length - 1) := List.take_of_length_le (by rw [List.length_drop]; omega)
    rw [e2, show (⟨#[35]⟩ : ByteArray) = S [35] from rfl, S_list]
    simp only [Option.bind_some]
    cases hb : l.drop (l.length - 1) == [35] with
    | true => rw [if_pos rfl, hc]; simp only [Option.bind_some, S_list, Bool.true_and]
    | false => rw [if_neg (by decide), Bool.false_and]
  · have : l = [] := List.eq_nil_of_length_eq_zero (by omega)
    subst this
    rw [if_neg (by rw [hz]; decide)]
    rfl

theorem ref_Whole_eq (l : List UInt8) (h : l.length ≤ 1000) (k : Nat) (hk : 1010 ≤ k) : plaitingref1_Whole.f k (S l) = some (wholeL l) := by
  have hz := S_size l
  unfold plaitingref1_Whole.f wholeL
  rw [S_list]
  by_cases h0 : l = []
  · subst h0
    rw [if_pos rfl]
    rfl
  · have hpos : 0 < l.length := List.length_pos_iff.2 h0
    have e1 : wrap64 (((S l).size : Int) - 1) = ((l.length - 1 : Nat) : Int) := by rw [w64 _ (by omega) (by omega)]; omega
    have hb := S_bt l (l.length - 1) (by omega)
    have hd : l.drop (l.length - 1) = [l[l.length - 1]'(by omega)] := by
      rw [List.drop_eq_getElem_cons (by omega), List.drop_of_length_le (by omega)]
    rw [if_neg h0, ref_Clean_eq l h k hk]
    simp only [Option.bind_some, S_list]
    rw [e1, hb, hd]
    have hbool : ((((l[l.length - 1]'(by omega)).toNat : Int)) == 35) = ([l[l.length - 1]'(by omega)] == [35]) := by
      by_cases e : l[l.length - 1]'(by omega) = 35
      · rw [e]; rfl
      · have hne : ¬ (((l[l.length - 1]'(by omega)).toNat : Int) = 35) := fun h => e (u8_eq (by have h35 : (35 : UInt8).toNat = 35 := rfl; omega))
        rw [beq_eq_false_iff_ne.2 hne]
        symm
        rw [beq_eq_false_iff_ne]
        intro h
        exact e (List.cons.inj h).1
    by_cases hc : cleanL l = l
    · rw [if_pos hc, if_pos (by omega), if_pos (by omega), hbool, beq_iff_eq.2 hc, Bool.and_true]
    · rw [if_neg hc, beq_eq_false_iff_ne.2 hc, Bool.and_false]
theorem ref_Common_eq (a b : List UInt8) (ha : a.length ≤ 1000) (k : Nat) (hk : 1010 ≤ k) : plaitingref1_Common.f k (S a) (S b) = some (S (commonL a b)) := by
  unfold plaitingref1_Common.f
  exact common_loop plaitingref1_Common.l0 (fun k x0 x1 x5 => by simp only [plaitingref1_Common.l0]) a b ha a.length k 0 (by omega) (by omega) (by simp)
theorem ref_Front_eq (a b : List UInt8) : plaitingref1_Front.f (S a) (S b) = some (frontL a b) := by
  have hza := S_size a
  have hzb := S_size b
  unfold plaitingref1_Front.f frontL
  by_cases h : a.length ≤ b.length
  · rw [if_pos (by omega), if_pos (by omega), hza, Int.toNat_natCast, S_take, S_list, S_list]
  · rw [if_neg (by omega)]
    simp only [Option.some.injEq]
    symm
    rw [beq_eq_false_iff_ne]
    intro e
    have := congrArg List.length e
    rw [List.length_take] at this
    omega

/-! ### a symbol turned -/
def turnC (c : UInt8) : UInt8 := UInt8.ofNat (turnedN c.toNat)
def turnL (l : List UInt8) (j : Nat) : List UInt8 := l.set j (turnC (l.getD j 0))
theorem turnB_eq (l : List UInt8) (j : Nat) : turnB (S l) j = S (turnL l j) := by
  unfold turnB turnL strOfNums bytesOf
  rw [S_data]
  congr 2
  rw [List.map_set, List.map_map]
  have hid : l.map ((fun n : Int => UInt8.ofNat n.toNat) ∘ fun b : UInt8 => (b.toNat : Int)) = l := by
    have : ((fun n : Int => UInt8.ofNat n.toNat) ∘ fun b : UInt8 => (b.toNat : Int)) = id := by
      funext b
      simp
    rw [this, List.map_id]
  rw [hid]
  simp [turnC]
theorem sym_Turn_eq (l : List UInt8) (j : Nat) (h : j < l.length) : sym_Turn.f (S l) j = some (S (turnL l j)) := by
  unfold sym_Turn.f
  rw [if_neg (by rw [S_size]; omega), Int.toNat_natCast, turnB_eq]
theorem sym_Turn_out (l : List UInt8) (a : Int) (h : a < 0 ∨ (l.length : Int) ≤ a) : sym_Turn.f (S l) a = some (S l) := by
  unfold sym_Turn.f
  rw [if_pos (by rw [S_size]; exact h)]
theorem ref_Turn_out (l : List UInt8) (a : Int) (h : a < 0 ∨ (l.length : Int) ≤ a) (k : Nat) (hk : 1 ≤ k) : plaitingref1_Turn.f k (S l) a = some (S l) := by
  obtain ⟨k, rfl⟩ : ∃ q, k = q + 1 := ⟨k - 1, by omega⟩
  have hz := S_size l
  unfold plaitingref1_Turn.f
  split
  · simp only [plaitingref1_Turn.j0]; rfl
  · have e : decide (a ≥ ((S l).size : Int)) = true := by simp; omega
    rw [e]
    simp only [plaitingref1_Turn.j0]; rfl
theorem set_eq (l : List UInt8) (j : Nat) (c : UInt8) (h : j < l.length) : l.set j c = l.take j ++ [c] ++ l.drop (j + 1) := by
  rw [List.set_eq_take_append_cons_drop, if_pos h, List.append_assoc]
  rfl
theorem ref_Turn_eq (l : List UInt8) (j : Nat) (h : j < l.length) (hl : l.length ≤ 1000) (k : Nat) (hk : 1 ≤ k) : plaitingref1_Turn.f k (S l) j = some (S (turnL l j)) := by
  obtain ⟨k, rfl⟩ : ∃ q, k = q + 1 := ⟨k - 1, by omega⟩
  have hz := S_size l
  unfold plaitingref1_Turn.f
  have e : decide ((j : Int) ≥ ((S l).size : Int)) = false := by simp; omega
  have e1 : wrap64 ((j : Int) + 1) = ((j + 1 : Nat) : Int) := by rw [w64 _ (by omega) (by omega)]; omega
  rw [if_neg (by omega), e]
  simp only [plaitingref1_Turn.j0]
  have hx : ((S l).extract ((j : Nat) : Int).toNat ((j + 1 : Nat) : Int).toNat) = S [l[j]'h] := by
    rw [Int.toNat_natCast, Int.toNat_natCast, S_extract, List.drop_eq_getElem_cons h]
    congr 2
    rw [show j + 1 - j = 1 by omega]
    rfl
  have ht : ((S l).extract 0 ((j : Nat) : Int).toNat) = S (l.take j) := by rw [Int.toNat_natCast, S_take]
  have hd : ((S l).extract ((j + 1 : Nat) : Int).toNat (S l).size) = S (l.drop (j + 1)) := by
    rw [Int.toNat_natCast, S_extract, hz, List.take_of_length_le (by rw [List.length_drop]; omega)]
  have z1 : (S (l.take j)).size = j := by rw [S_size, List.length_take]; omega
  have z2 : (S (l.drop (j + 1))).size = l.length - (j + 1) := by rw [S_size, List.length_drop]
  have hg : l.getD j 0 = l[j]'h := by simp [List.getD_eq_getElem?_getD, List.getElem?_eq_getElem h]
  rw [if_neg (by decide), e1, hx, ht, hd, if_pos (by omega), if_pos (by omega), if_pos (by omega), S_list]
  have done : ∀ (c : UInt8), turnC (l[j]'h) = c → ((S (l.take j)) ++ S [c]) ++ S (l.drop (j + 1)) = S (turnL l j) := by
    intro c hc
    unfold turnL
    rw [hg, hc, S_append, S_append, set_eq l j c h]
  have zs : ∀ (c : UInt8), ((S (l.take j)) ++ S [c]).size = j + 1 := by
    intro c
    rw [S_append, S_size, List.length_append, List.length_take]
    simp
    omega
  by_cases h48 : l[j]'h = 48
  · rw [if_pos (by rw [h48]), if_pos (by omega), if_pos (by omega), if_pos (by omega), if_pos (by rw [show (⟨#[49]⟩ : ByteArray) = S [49] from rfl, zs, z2]; omega)]
    exact congrArg some (done 49 (by rw [h48]; rfl))
  · rw [if_neg (by intro e; exact h48 (List.cons.inj e).1)]
    by_cases h49 : l[j]'h = 49
    · rw [if_pos (by rw [h49]), if_pos (by omega), if_pos (by omega), if_pos (by omega), if_pos (by rw [show (⟨#[48]⟩ : ByteArray) = S [48] from rfl, zs, z2]; omega)]
      exact congrArg some (done 48 (by rw [h49]; rfl))
    · rw [if_neg (by intro e; exact h49 (List.cons.inj e).1)]
      by_cases h35 : l[j]'h = 35
      · rw [if_pos (by rw [h35]), if_pos (by omega), if_pos (by omega), if_pos (by omega), if_pos (by rw [show (⟨#[48]⟩ : ByteArray) = S [48] from rfl, zs, z2]; omega)]
        exact congrArg some (done 48 (by rw [h35]; rfl))
      · rw [if_neg (by intro e; exact h35 (List.cons.inj e).1)]
        have hsame : turnC (l[j]'h) = l[j]'h := by
          unfold turnC turnedN
          have n49 : ¬ (l[j]'h).toNat = 49 := fun e => h49 (u8_eq e)
          have n35 : ¬ (l[j]'h).toNat = 35 := fun e => h35 (u8_eq e)
          have n48 : ¬ (l[j]'h).toNat = 48 := fun e => h48 (u8_eq e)
          rw [if_neg n49, if_neg n35, if_neg n48]
          simp
        rw [if_pos (by omega), if_pos (by rw [z1]; have : (S [l[j]'h]).size = 1 := rfl; omega), if_pos (by omega), if_pos (by rw [zs, z2]; omega)]
        exact congrArg some (done _ hsame)
theorem known1 (k : Nat) (hk : 70 ≤ k) : plaitinglaw1_known.f k = some true := by
  unfold plaitinglaw1_known.f
  have h1 : sym_Clean.f (⟨#[48, 49, 120, 49]⟩ : ByteArray) = some (S [48, 49]) := sym_Clean_eq [48, 49, 120, 49] (by decide)
  have h2 : sym_Bits.f k 5 3 = some (S (bitL 5 3)) := sym_Bits_eq 5 3 k (by decide) (by decide) hk
  rw [h1, Option.bind_some, S_list, if_pos rfl, h2, Option.bind_some, S_list]
  rfl

/-! ### more of streams -/
theorem cleanL_cons (c : UInt8) (l : List UInt8) : cleanL (c :: l) = if c.toNat = 35 then [c] else if c.toNat = 48 ∨ c.toNat = 49 then c :: cleanL l else [] := by
  unfold cleanL
  rw [cleanLen]
  split
  · simp
  · split
    · simp
    · simp
theorem cleanL_nil : cleanL [] = [] := rfl
theorem cleanL_idem : ∀ l : List UInt8, cleanL (cleanL l) = cleanL l
  | [] => rfl
  | c :: l => by
    rw [cleanL_cons]
    by_cases h1 : c.toNat = 35
    · rw [if_pos h1, cleanL_cons, if_pos h1]
    · rw [if_neg h1]
      by_cases h2 : c.toNat = 48 ∨ c.toNat = 49
      · rw [if_pos h2, cleanL_cons, if_neg h1, if_pos h2, cleanL_idem l]
      · rw [if_neg h2]; rfl
theorem cleanL_len (l : List UInt8) : (cleanL l).length ≤ l.length := by
  unfold cleanL
  rw [List.length_take]
  omega
theorem cleanL_stop : ∀ b r : List UInt8, cleanL (b ++ [35] ++ r) = cleanL (b ++ [35])
  | [], r => by
    show cleanL (35 :: r) = cleanL [35]
    have h35 : (35 : UInt8).toNat = 35 := rfl
    rw [cleanL_cons, cleanL_cons, if_pos h35, if_pos h35]
  | c :: b, r => by
    show cleanL (c :: (b ++ [35] ++ r)) = cleanL (c :: (b ++ [35]))
    rw [cleanL_cons, cleanL_cons, cleanL_stop b r]
theorem cleanL_at : ∀ (l : List UInt8) (i : Nat) (h : i < (cleanL l).length), ((cleanL l)[i]'h).toNat = 48 ∨ ((cleanL l)[i]'h).toNat = 49 ∨ (((cleanL l)[i]'h).toNat = 35 ∧ i + 1 = (cleanL l).length)
  | [], i, h => absurd h (by simp [cleanL_nil])
  | c :: l, i, h => by
    have e := cleanL_cons c l
    by_cases h1 : c.toNat = 35
    · rw [if_pos h1] at e
      simp only [e] at h ⊢
      have : i = 0 := by simpa using h
      subst this
      exact .inr (.inr ⟨h1, rfl⟩)
    · rw [if_neg h1] at e
      by_cases h2 : c.toNat = 48 ∨ c.toNat = 49
      · rw [if_pos h2] at e
        simp only [e] at h ⊢
        cases i with
        | zero =>
          rcases h2 with h2 | h2
          · exact .inl h2
          · exact .inr (.inl h2)
        | succ i =>
          have := cleanL_at l i (by simpa using h)
          simp only [List.getElem_cons_succ, List.length_cons]
          omega
      · rw [if_neg h2] at e
        simp [e] at h

/-! ### masks -/
theorem and_mask (x : Int) (m : Nat) (hm : m ≤ 62) : Go.bits .and .i64 x (2 ^ m - 1) = x % 2 ^ m := by
  have hp : (0 : Int) < 2 ^ m := two_pow_pos m
  have hnat : ((2 : Int) ^ m - 1) = ((2 ^ m - 1 : Nat) : Int) := by
    have : 0 < 2 ^ m := Nat.two_pow_pos m
    rw [Int.natCast_sub this]
    simp
  have hle : (2 : Nat) ^ m ≤ 2 ^ 62 := Nat.pow_le_pow_right (by decide) hm
  have h : ((BitVec.ofInt 64 x &&& BitVec.ofInt 64 (2 ^ m - 1)).toNat : Int) = x % 2 ^ m := by
    rw [BitVec.toNat_and, hnat, BitVec.ofInt_natCast, BitVec.toNat_ofNat, Nat.mod_eq_of_lt (by omega), Nat.and_two_pow_sub_one_eq_mod, BitVec.toNat_ofInt]
    have h1 : (0 : Int) ≤ x % ((2 ^ 64 : Nat) : Int) := Int.emod_nonneg _ (by decide)
    rw [Int.natCast_emod, Int.toNat_of_nonneg h1]
    have hd : ((2 : Int) ^ m) ∣ ((2 ^ 64 : Nat) : Int) := ⟨2 ^ (64 - m), by rw [← Int.pow_add, show m + (64 - m) = 64 by omega]; rfl⟩
    have := Int.emod_emod_of_dvd x hd
    simpa using this
  have hlt : x % 2 ^ m < 2 ^ m := Int.emod_lt_of_pos x hp
  have hge : 0 ≤ x % 2 ^ m := Int.emod_nonneg x (by omega)
  have h62 : (2 : Int) ^ m ≤ 4611686018427387904 := by
    have : ((2 ^ m : Nat) : Int) ≤ ((2 ^ 62 : Nat) : Int) := by exact_mod_cast hle
    simpa using this
  unfold Go.bits
  show IntKind.i64.wrap ((BitVec.ofInt 64 x &&& BitVec.ofInt 64 (2 ^ m - 1)).toNat : Int) = _
  rw [h, IntKind.wrap_i64]
  omega
theorem mask_eq (m : Nat) (hm : m ≤ 62) : wrap64 (shl .i64 1 (IntKind.u64.wrap (m : Int)) - 1) = 2 ^ m - 1 := by
  have e1 : IntKind.u64.wrap (m : Int) = (m : Int) := by rw [IntKind.wrap_u64]; omega
  have hp : (0 : Int) < 2 ^ m := two_pow_pos m
  have h62 : (2 : Int) ^ m ≤ 4611686018427387904 := by
    have : ((2 ^ m : Nat) : Int) ≤ ((2 ^ 62 : Nat) : Int) := by exact_mod_cast Nat.pow_le_pow_right (show 0 < 2 by decide) hm
    simpa using this
  unfold shl
  rw [e1, Int.toNat_natCast, Nat.min_eq_left (by simp [IntKind.bits]; omega), Int.one_mul, IntKind.wrap_i64, w64 _ (by omega) (by omega)]
  omega
theorem val_bitL0 (n : Int) (m : Nat) : (val (bitL n m) 0 : Int) = n % 2 ^ m := by
  have := val_bitL n m 0
  simpa using this
end Go.Proofs.Ytnggjnhfdjjphaa.Pure
