/- The theory of the sums: a register over bits, what one that is another one does to it. No program in sight. -/
import Derived.Test.YtnggjnhfdjjphaaSymLib
import Derived.Test.YtnggjnhfdjjphaaPTwox1
namespace Go.Proofs.Ytnggjnhfdjjphaa.Pure
open Go.RowKit Go.Proofs.Ytnggjnhfdjjphaa.PTwo Go.Proofs.YtnggjnhfdjjphaaW.PrintWords Go.Proofs.YtnggjnhfdjjphaaW.PrintLast Go.Proofs.YtnggjnhfdjjphaaW.PrintMore
/-! ### the register: one bit later -/
theorem double_xor (a b : Nat) : 2 * (a ^^^ b) = (2 * a) ^^^ (2 * b) := by
  have h : ∀ x : Nat, 2 * x = x <<< 1 := fun x => by rw [Nat.shiftLeft_eq]; omega
  rw [h, h, h, Nat.shiftLeft_xor_distrib]
theorem top_bit (n : Nat) (h : n < 65536) : n / 32768 = 0 ∨ n / 32768 = 1 := by omega
theorem xor_lt16 {a b : Nat} (ha : a < 65536) (hb : b < 65536) : a ^^^ b < 65536 := Nat.xor_lt_two_pow (n := 16) ha hb
def bit01 (b : Nat) : Prop := b = 0 ∨ b = 1
theorem bit01_xor {a b : Nat} (ha : bit01 a) (hb : bit01 b) : bit01 (a ^^^ b) := by
  rcases ha with rfl | rfl <;> rcases hb with rfl | rfl <;> simp [bit01]
theorem step_form (n b : Nat) (hn : n < 65536) (hb : bit01 b) : sumStep n b = (2 * n % 65536) ^^^ (((n / 32768) ^^^ b) * 4129) := by
  unfold sumStep
  rcases top_bit n hn with h | h <;> rcases hb with rfl | rfl <;> rw [h] <;> simp
theorem mul_bit_xor {a b : Nat} (ha : bit01 a) (hb : bit01 b) (c : Nat) : (a ^^^ b) * c = (a * c) ^^^ (b * c) := by
  rcases ha with rfl | rfl <;> rcases hb with rfl | rfl <;> simp
theorem xor4 (a b c d : Nat) : (a ^^^ b) ^^^ (c ^^^ d) = (a ^^^ c) ^^^ (b ^^^ d) := by
  rw [Nat.xor_assoc, Nat.xor_assoc, ← Nat.xor_assoc b c d, Nat.xor_comm b c, Nat.xor_assoc c b d]
theorem step_xor (n m b c : Nat) (hn : n < 65536) (hm : m < 65536) (hb : bit01 b) (hc : bit01 c) :
    sumStep (n ^^^ m) (b ^^^ c) = sumStep n b ^^^ sumStep m c := by
  rw [step_form _ _ (xor_lt16 hn hm) (bit01_xor hb hc), step_form n b hn hb, step_form m c hm hc]
  have h1 : 2 * (n ^^^ m) % 65536 = (2 * n % 65536) ^^^ (2 * m % 65536) := by
    rw [double_xor]; exact Nat.xor_mod_two_pow (n := 16)
  have h2 : (n ^^^ m) / 32768 = (n / 32768) ^^^ (m / 32768) := Nat.xor_div_two_pow (n := 15)
  have tn : bit01 (n / 32768) := top_bit n hn
  have tm : bit01 (m / 32768) := top_bit m hm
  rw [h1, h2, xor4 (n / 32768), mul_bit_xor (bit01_xor tn hb) (bit01_xor tm hc), xor4]
/-- The register over bits. -/
def sumF : List UInt8 → Nat → Nat
  | [], n => n
  | c :: l, n => sumF l (sumStep n (c.toNat - 48))
theorem sumF_lt : ∀ (l : List UInt8) (n : Nat), n < 65536 → sumF l n < 65536
  | [], _, h => h
  | _ :: l, _, _ => sumF_lt l _ (sumStep_lt _ _)
theorem sumF_append : ∀ (a b : List UInt8) (n : Nat), sumF (a ++ b) n = sumF b (sumF a n)
  | [], _, _ => rfl
  | _ :: a, b, _ => sumF_append a b _
theorem sumGo_sumF : ∀ (l : List UInt8) (n : Nat), isBits l → sumGo n l = some (sumF l n)
  | [], _, _ => rfl
  | c :: l, n, h => by
    rw [sumGo, if_pos (h c (List.mem_cons_self ..))]
    exact sumGo_sumF l _ fun x hx => h x (List.mem_cons_of_mem _ hx)
/-- The register, so many noughts later. -/
def tt : Nat → Nat → Nat
  | 0, x => x
  | n + 1, x => tt n (sumStep x 0)
theorem tt_lt : ∀ (n x : Nat), x < 65536 → tt n x < 65536
  | 0, _, h => h
  | n + 1, _, _ => tt_lt n _ (sumStep_lt _ _)
theorem tt_add : ∀ (a b x : Nat), tt (a + b) x = tt b (tt a x)
  | 0, b, x => by rw [Nat.zero_add]; rfl
  | a + 1, b, x => by
    rw [show a + 1 + b = (a + b) + 1 by omega]
    exact tt_add a b _
theorem tt_xor : ∀ (n x y : Nat), x < 65536 → y < 65536 → tt n (x ^^^ y) = tt n x ^^^ tt n y
  | 0, _, _, _, _ => rfl
  | n + 1, x, y, hx, hy => by
    have h := step_xor x y 0 0 hx hy (.inl rfl) (.inl rfl)
    rw [Nat.xor_self] at h
    show tt n (sumStep (x ^^^ y) 0) = _
    rw [h]
    exact tt_xor n _ _ (sumStep_lt _ _) (sumStep_lt _ _)
theorem step_zero (x : Nat) (hx : x < 65536) (h : sumStep x 0 = 0) : x = 0 := by
  unfold sumStep at h
  rcases top_bit x hx with ht | ht
  · rw [if_pos ht] at h
    omega
  · rw [if_neg (by omega)] at h
    exfalso
    have h1 : (2 * x % 65536 ^^^ 4129).testBit 0 = false := by rw [h]; rfl
    rw [Nat.testBit_xor] at h1
    have h2 : (2 * x % 65536).testBit 0 = false := by
      rw [Nat.testBit_zero]; simp
    rw [h2] at h1
    exact absurd h1 (by decide)
theorem tt_zero : ∀ (n x : Nat), x < 65536 → tt n x = 0 → x = 0
  | 0, _, _, h => h
  | n + 1, x, hx, h => step_zero x hx (tt_zero n _ (sumStep_lt _ _) h)
theorem tt_nil : ∀ n, tt n 0 = 0
  | 0 => rfl
  | n + 1 => tt_nil n
/-- What is laid over the register goes on by itself. -/
theorem sumF_xor : ∀ (l : List UInt8) (n x : Nat), isBits l → n < 65536 → x < 65536 → sumF l (n ^^^ x) = sumF l n ^^^ tt l.length x
  | [], _, _, _, _, _ => rfl
  | c :: l, n, x, h, hn, hx => by
    have hc := h c (List.mem_cons_self ..)
    have hb : bit01 (c.toNat - 48) := by unfold bit01; omega
    have hs := step_xor n x (c.toNat - 48) 0 hn hx hb (.inl rfl)
    rw [Nat.xor_zero] at hs
    show sumF l (sumStep (n ^^^ x) (c.toNat - 48)) = sumF l (sumStep n (c.toNat - 48)) ^^^ tt l.length (sumStep x 0)
    rw [hs]
    exact sumF_xor l _ _ (fun y hy => h y (List.mem_cons_of_mem _ hy)) (sumStep_lt _ _) (sumStep_lt _ _)
theorem turnC_bit (c : UInt8) (h : c.toNat = 48 ∨ c.toNat = 49) : (turnC c).toNat - 48 = (c.toNat - 48) ^^^ 1 ∧ ((turnC c).toNat = 48 ∨ (turnC c).toNat = 49) := by
  rcases h with h | h
  · have : c = 48 := u8_eq h
    subst this; decide
  · have : c = 49 := u8_eq h
    subst this; decide
theorem turnL_cons (c : UInt8) (l : List UInt8) (j : Nat) : turnL (c :: l) (j + 1) = c :: turnL l j := by
  simp [turnL]
theorem turnL_zero (c : UInt8) (l : List UInt8) : turnL (c :: l) 0 = turnC c :: l := by
  simp [turnL]
theorem turnL_bits : ∀ (l : List UInt8) (j : Nat), isBits l → isBits (turnL l j)
  | [], j, h => by simpa [turnL] using h
  | c :: l, 0, h => by
    rw [turnL_zero]
    intro x hx
    rcases List.mem_cons.1 hx with rfl | hx
    · exact (turnC_bit c (h c (List.mem_cons_self ..))).2
    · exact h x (List.mem_cons_of_mem _ hx)
  | c :: l, j + 1, h => by
    rw [turnL_cons]
    intro x hx
    rcases List.mem_cons.1 hx with rfl | hx
    · exact h _ (List.mem_cons_self ..)
    · exact turnL_bits l j (fun y hy => h y (List.mem_cons_of_mem _ hy)) x hx
theorem turnL_length (l : List UInt8) (j : Nat) : (turnL l j).length = l.length := by unfold turnL; rw [List.length_set]
/-- One bit another one. -/
theorem sumF_turn : ∀ (l : List UInt8) (j n : Nat), isBits l → j < l.length → n < 65536 → sumF (turnL l j) n = sumF l n ^^^ tt (l.length - 1 - j) 4129
  | [], _, _, _, h, _ => absurd h (by simp)
  | c :: l, 0, n, h, _, hn => by
    have hc := h c (List.mem_cons_self ..)
    have hb : bit01 (c.toNat - 48) := by unfold bit01; omega
    have hs := step_xor n 0 (c.toNat - 48) 1 hn (by decide) hb (.inr rfl)
    rw [Nat.xor_zero] at hs
    have h1 : sumStep 0 1 = 4129 := by decide
    rw [turnL_zero]
    show sumF l (sumStep n ((turnC c).toNat - 48)) = _
    rw [(turnC_bit c hc).1, hs, h1, sumF_xor l _ _ (fun y hy => h y (List.mem_cons_of_mem _ hy)) (sumStep_lt _ _) (by decide)]
    rw [List.length_cons, show l.length + 1 - 1 - 0 = l.length by omega]
    rfl
  | c :: l, j + 1, n, h, hj, hn => by
    rw [turnL_cons]
    show sumF (turnL l j) (sumStep n (c.toNat - 48)) = sumF l (sumStep n (c.toNat - 48)) ^^^ _
    rw [sumF_turn l j _ (fun y hy => h y (List.mem_cons_of_mem _ hy)) (by simpa using hj) (sumStep_lt _ _)]
    rw [List.length_cons, show l.length + 1 - 1 - (j + 1) = l.length - 1 - j by omega]

/-! ### sixteen bits behind the others -/
theorem val_split : ∀ (l : List UInt8) (v : Nat), val l v = v * 2 ^ l.length + val l 0
  | [], v => by simp [val]
  | c :: l, v => by
    rw [val, val, val_split l (2 * v + (c.toNat - 48)), val_split l (2 * 0 + (c.toNat - 48)), List.length_cons, Nat.pow_succ]
    rw [Nat.add_mul, Nat.add_mul, Nat.mul_zero, Nat.zero_mul, Nat.zero_add]
    have : 2 * v * 2 ^ l.length = v * (2 ^ l.length * 2) := by rw [Nat.mul_comm 2 v, Nat.mul_assoc, Nat.mul_comm 2]
    omega
theorem val_lt0 (l : List UInt8) (h : isBits l) : val l 0 < 2 ^ l.length := by
  have := val_lt l 0 0 h (by decide)
  rwa [Nat.zero_add] at this
theorem bitC_of (c : UInt8) (h : c.toNat = 48 ∨ c.toNat = 49) : bitC ((c.toNat - 48 : Nat) : Int) = c := by
  rcases h with h | h
  · have : c = 48 := u8_eq h
    subst this; rfl
  · have : c = 49 := u8_eq h
    subst this; rfl
theorem bitL_val : ∀ (l : List UInt8) (v : Nat), isBits l → bitL ((val l v : Nat) : Int) l.length = l
  | [], v, _ => rfl
  | c :: l, v, h => by
    have hc := h c (List.mem_cons_self ..)
    have hl : isBits l := fun x hx => h x (List.mem_cons_of_mem _ hx)
    have hv : val (c :: l) v = val l (2 * v + (c.toNat - 48)) := by rw [val]
    have hq : val l (2 * v + (c.toNat - 48)) / 2 ^ l.length % 2 = c.toNat - 48 := by
      rw [val_split, Nat.mul_comm, Nat.mul_add_div (Nat.two_pow_pos _), Nat.div_eq_of_lt (val_lt0 l hl)]
      omega
    rw [hv, List.length_cons, bitL, bitL_val l _ hl]
    congr 1
    have : (((val l (2 * v + (c.toNat - 48)) : Nat) : Int) / 2 ^ l.length % 2) = ((c.toNat - 48 : Nat) : Int) := by
      exact_mod_cast hq
    rw [this]
    exact bitC_of c hc
/-- A bit that comes in, as one that lies on the top. -/
theorem step_top (n b : Nat) (hn : n < 65536) (hb : bit01 b) : sumStep n b = sumStep (n ^^^ (b * 32768)) 0 := by
  have hx : b * 32768 < 65536 := Nat.lt_of_le_of_lt (Nat.mul_le_mul_right 32768 (show b ≤ 1 by rcases hb with h | h <;> rw [h] <;> decide)) (by decide)
  have h := step_xor n (b * 32768) 0 0 hn hx (.inl rfl) (.inl rfl)
  have h2 := step_xor n 0 0 b hn (by decide) (.inl rfl) hb
  rw [Nat.xor_self] at h
  rw [Nat.xor_zero, Nat.zero_xor] at h2
  rw [h, h2]
  congr 1
  rcases hb with rfl | rfl <;> decide
theorem step_low (y : Nat) (h : y < 32768) : sumStep y 0 = 2 * y := by
  unfold sumStep
  rw [if_pos (by omega)]
  omega
theorem sumF_val : ∀ (r : List UInt8) (n : Nat), isBits r → n < 65536 → r.length ≤ 16 → sumF r n = tt r.length (n ^^^ (val r 0 * 2 ^ (16 - r.length)))
  | [], n, _, _, _ => by
    show n = n ^^^ (val [] 0 * _)
    simp [val]
  | c :: r, n, h, hn, hl => by
    have hc := h c (List.mem_cons_self ..)
    have hr : isBits r := fun x hx => h x (List.mem_cons_of_mem _ hx)
    have hb : bit01 (c.toNat - 48) := by unfold bit01; omega
    rw [List.length_cons] at hl
    have ih := sumF_val r (sumStep n (c.toNat - 48)) hr (sumStep_lt _ _) (by omega)
    have hvl := val_lt0 r hr
    have hy : val r 0 * 2 ^ (15 - r.length) < 32768 := by
      have h2 : 2 ^ r.length * 2 ^ (15 - r.length) = 32768 := by rw [← Nat.pow_add, show r.length + (15 - r.length) = 15 by omega]
      rw [← h2]
      exact Nat.mul_lt_mul_of_pos_right hvl (Nat.two_pow_pos _)
    have hb32 : (c.toNat - 48) * 32768 < 65536 := Nat.lt_of_le_of_lt (Nat.mul_le_mul_right 32768 (show c.toNat - 48 ≤ 1 by omega)) (by decide)
    show sumF r (sumStep n (c.toNat - 48)) = tt r.length (sumStep (n ^^^ (val (c :: r) 0 * 2 ^ (16 - (r.length + 1)))) 0)
    rw [ih, step_top n _ hn hb]
    have hs := step_xor (n ^^^ ((c.toNat - 48) * 32768)) (val r 0 * 2 ^ (15 - r.length)) 0 0 (xor_lt16 hn hb32) (by omega) (.inl rfl) (.inl rfl)
    rw [Nat.xor_self, step_low _ hy] at hs
    have he : 2 * (val r 0 * 2 ^ (15 - r.length)) = val r 0 * 2 ^ (16 - r.length) := by
      rw [show 16 - r.length = (15 - r.length) + 1 by omega, Nat.pow_succ, Nat.mul_comm 2, Nat.mul_assoc]
    rw [he] at hs
    rw [← hs]
    have hv : val (c :: r) 0 * 2 ^ (16 - (r.length + 1)) = ((c.toNat - 48) * 32768) ^^^ (val r 0 * 2 ^ (15 - r.length)) := by
      have e1 : val (c :: r) 0 = (c.toNat - 48) * 2 ^ r.length + val r 0 := by
        rw [val, val_split]; simp
      have e2 : 2 ^ r.length * 2 ^ (15 - r.length) = 32768 := by rw [← Nat.pow_add, show r.length + (15 - r.length) = 15 by omega]
      rw [e1, show 16 - (r.length + 1) = 15 - r.length by omega, Nat.add_mul, Nat.mul_assoc, e2]
      rcases hb with h0 | h0 <;> rw [h0]
      · simp
      · have := Nat.two_pow_add_eq_or_of_lt (i := 15) hy 1
        have hor : (1 * 32768) ^^^ (val r 0 * 2 ^ (15 - r.length)) = 1 * 32768 + val r 0 * 2 ^ (15 - r.length) := by
          generalize val r 0 * 2 ^ (15 - r.length) = y at hy
          apply Nat.eq_of_testBit_eq
          intro i
          have h15 : (32768 : Nat) = 2 ^ 15 := rfl
          rw [Nat.testBit_xor, Nat.one_mul, h15]
          by_cases hi : i = 15
          · subst hi
            rw [Nat.testBit_two_pow_add_eq, Nat.testBit_two_pow_self, Nat.testBit_lt_two_pow hy]; rfl
          · rw [Nat.testBit_two_pow_of_ne (by omega)]
            by_cases hlt : i < 15
            · rw [Nat.testBit_two_pow_add_gt hlt]; simp
            · rw [Nat.testBit_lt_two_pow (Nat.lt_of_lt_of_le hy (Nat.pow_le_pow_right (show 0 < 2 by decide) (by omega : 15 ≤ i))),
                Nat.testBit_lt_two_pow (Nat.lt_of_lt_of_le (show 2 ^ 15 + y < 2 ^ 16 by omega) (Nat.pow_le_pow_right (show 0 < 2 by decide) (by omega : 16 ≤ i)))]
              rfl
        omega
    rw [hv, Nat.xor_assoc]
/-- Sixteen bits behind a register leave nought just where they are its own. -/
theorem sumF_own (r : List UInt8) (n : Nat) (h : isBits r) (hn : n < 65536) (hl : r.length = 16) : sumF r n = 0 ↔ r = bitL (n : Int) 16 := by
  have hv := sumF_val r n h hn (by omega)
  have hlt := val_lt0 r h
  rw [hl] at hv hlt
  have e0 : val r 0 * 2 ^ (16 - 16) = val r 0 := by simp
  rw [e0] at hv
  have hx : n ^^^ val r 0 < 65536 := xor_lt16 hn hlt
  constructor
  · intro hz
    rw [hz] at hv
    have h0 := tt_zero 16 _ hx hv.symm
    have hnv : val r 0 = n := by
      have : n ^^^ (n ^^^ val r 0) = n ^^^ 0 := congrArg (fun x => n ^^^ x) h0
      rw [← Nat.xor_assoc, Nat.xor_self, Nat.zero_xor, Nat.xor_zero] at this
      exact this
    have := bitL_val r 0 h
    rw [hl, hnv] at this
    exact this.symm
  · intro he
    have hb := val_bitL0 (n : Int) 16
    rw [← he] at hb
    have hnv : val r 0 = n := by
      have h16 : (n : Int) % 2 ^ 16 = n := Int.emod_eq_of_lt (by omega) (by omega)
      omega
    rw [hv, hnv, Nat.xor_self]
    exact tt_nil 16

/-! ### words that are taken -/
/-- What a word's bits, its sum's among them, leave. -/
def syn (w : List UInt8) : Nat := sumF w 65535
theorem syn_wrap (b : List UInt8) : syn (b ++ bitL (sumF b 65535 : Nat) 16) = 0 := by
  unfold syn
  rw [sumF_append]
  exact (sumF_own _ _ (bitL_bits _ _) (sumF_lt b _ (by decide)) (bitL_length _ _)).2 rfl
theorem syn_lt (w : List UInt8) : syn w < 65536 := sumF_lt w _ (by decide)
theorem syn_turn (w : List UInt8) (j : Nat) (h : isBits w) (hj : j < w.length) : syn (turnL w j) = syn w ^^^ tt (w.length - 1 - j) 4129 :=
  sumF_turn w j 65535 h hj (by decide)
/-- Whether a word is taken. -/
theorem taken_iff (w : List UInt8) (n : Nat) (hb : isBits w) (hl : w.length = n + 16) : bitL (sumF (w.take n) 65535 : Nat) 16 = w.drop n ↔ syn w = 0 := by
  have hd : isBits (w.drop n) := fun c hc => hb c (List.mem_of_mem_drop hc)
  have hdl : (w.drop n).length = 16 := by rw [List.length_drop]; omega
  have := sumF_own (w.drop n) (sumF (w.take n) 65535) hd (sumF_lt _ _ (by decide)) hdl
  have e : syn w = sumF (w.drop n) (sumF (w.take n) 65535) := by
    unfold syn
    rw [← sumF_append, List.take_append_drop]
  rw [e, this]
  exact ⟨fun h => h.symm, fun h => h.symm⟩
theorem one_error (a : Nat) : tt a 4129 ≠ 0 := fun h => absurd (tt_zero a 4129 (by decide) h) (by decide)
theorem order_ok : ∀ d : Nat, d < 400 → tt (d + 1) 4129 ≠ 4129 := by decide +kernel
theorem xor_zero_eq {a b : Nat} (h : a ^^^ b = 0) : a = b := by
  have : (a ^^^ b) ^^^ b = 0 ^^^ b := congrArg (fun x => x ^^^ b) h
  rw [Nat.xor_assoc, Nat.xor_self, Nat.xor_zero, Nat.zero_xor] at this
  exact this
theorem two_errors (a d : Nat) (hd : d < 400) : tt (a + (d + 1)) 4129 ^^^ tt a 4129 ≠ 0 := by
  intro h
  rw [Nat.add_comm, tt_add, ← tt_xor a _ _ (tt_lt _ _ (by decide)) (by decide)] at h
  have := tt_zero a _ (xor_lt16 (tt_lt _ _ (by decide)) (by decide)) h
  exact order_ok d hd (xor_zero_eq this)

/-! ### an odd number of bits -/
def parN : Nat → Nat → Bool
  | 0, _ => false
  | n + 1, x => (x.testBit n).xor (parN n x)
theorem parN_xor : ∀ n x y : Nat, parN n (x ^^^ y) = (parN n x).xor (parN n y)
  | 0, _, _ => rfl
  | n + 1, x, y => by
    rw [parN, parN, parN, Nat.testBit_xor, parN_xor n x y]
    cases x.testBit n <;> cases y.testBit n <;> cases parN n x <;> cases parN n y <;> rfl
theorem parN_mod : ∀ n m x : Nat, n ≤ m → parN n (x % 2 ^ m) = parN n x
  | 0, _, _, _ => rfl
  | n + 1, m, x, h => by
    rw [parN, parN, Nat.testBit_mod_two_pow, parN_mod n m x (by omega), decide_eq_true (by omega), Bool.true_and]
theorem parN_double : ∀ n x : Nat, parN (n + 1) (2 * x) = parN n x
  | 0, x => by simp [parN]
  | n + 1, x => by
    rw [parN, parN_double n x, parN]
    congr 1
    rw [Nat.mul_comm, show x * 2 = x * 2 ^ 1 from rfl, Nat.testBit_mul_two_pow]
    simp
theorem parN_step (x : Nat) (hx : x < 65536) : parN 16 (sumStep x 0) = parN 16 x := by
  have hd : parN 16 (2 * x % 65536) = parN 15 x := by
    rw [show (65536 : Nat) = 2 ^ 16 from rfl, parN_mod 16 16 _ (Nat.le_refl _), parN_double]
  have h16 : parN 16 x = (x.testBit 15).xor (parN 15 x) := rfl
  unfold sumStep
  rcases top_bit x hx with ht | ht
  · have hb : x.testBit 15 = false := Nat.testBit_lt_two_pow (by omega)
    rw [if_pos ht, hd, h16, hb, Bool.false_xor]
  · have hb : x.testBit 15 = true := by
      rw [Nat.testBit_eq_decide_div_mod_eq, show (2 : Nat) ^ 15 = 32768 from rfl, ht]; rfl
    have h4129 : parN 16 4129 = true := by decide
    rw [if_neg (by omega), parN_xor, hd, h16, hb, h4129, Bool.xor_comm]
theorem parN_tt : ∀ n x : Nat, x < 65536 → parN 16 (tt n x) = parN 16 x
  | 0, _, _ => rfl
  | n + 1, x, hx => by
    show parN 16 (tt n (sumStep x 0)) = _
    rw [parN_tt n _ (sumStep_lt _ _), parN_step x hx]
theorem odd_errors (a b c : Nat) : (tt a 4129 ^^^ tt b 4129) ^^^ tt c 4129 ≠ 0 := by
  intro h
  have := congrArg (parN 16) h
  rw [parN_xor, parN_xor, parN_tt _ _ (by decide), parN_tt _ _ (by decide), parN_tt _ _ (by decide)] at this
  exact absurd this (by decide)

/-! ### bits others within sixteen places -/
theorem burst_place (q i : Nat) (hi : i ≤ 15) : tt (q + (15 - i)) 4129 = tt (q + 16) (2 ^ (15 - i)) := by
  have h : ∀ i : Nat, i < 16 → tt (i + 1) (2 ^ (15 - i)) = 4129 := by decide
  have e : tt (q + 16) (2 ^ (15 - i)) = tt (q + (15 - i)) (tt (i + 1) (2 ^ (15 - i))) := by
    rw [show q + 16 = (i + 1) + (q + (15 - i)) by omega]
    exact tt_add _ _ _
  rw [e, h i (by omega)]
/-- The bits laid over, so far, the other way about. -/
def revB (W : Nat) : Nat → Nat
  | 0 => 0
  | i + 1 => if W.testBit i = true then revB W i ^^^ 2 ^ (15 - i) else revB W i
theorem revB_lt (W : Nat) : ∀ i, i ≤ 16 → revB W i < 65536
  | 0, _ => by simp [revB]
  | i + 1, h => by
    have := revB_lt W i (by omega)
    have hp : 2 ^ (15 - i) < 65536 := Nat.lt_of_le_of_lt (Nat.pow_le_pow_right (show 0 < 2 by decide) (show 15 - i ≤ 15 by omega)) (by decide)
    unfold revB
    split
    · exact xor_lt16 this hp
    · exact this
theorem revB_bit (W : Nat) : ∀ n j, n ≤ 16 → j ≤ 15 → (revB W n).testBit (15 - j) = (decide (j < n) && W.testBit j)
  | 0, j, _, _ => by simp [revB]
  | n + 1, j, h, hj => by
    have ih := revB_bit W n j (by omega) hj
    unfold revB
    by_cases e : j = n
    · subst e
      have d0 : decide (j < j) = false := by simp
      have d1 : decide (j < j + 1) = true := by simp
      rw [d0, Bool.false_and] at ih
      rw [d1, Bool.true_and]
      split
      · rename_i hw
        rw [Nat.testBit_xor, ih, Nat.testBit_two_pow_self, hw]; rfl
      · rename_i hw
        rw [ih]; simpa using hw
    · have d : decide (j < n + 1) = decide (j < n) := by simp only [decide_eq_decide]; omega
      rw [d, ← ih]
      split
      · rw [Nat.testBit_xor, Nat.testBit_two_pow_of_ne (by omega), Bool.xor_false]
      · rfl
theorem revB_ne (W : Nat) (h0 : W ≠ 0) (h1 : W < 65536) : revB W 16 ≠ 0 := by
  obtain ⟨j, hj⟩ := Nat.exists_testBit_of_ne_zero h0
  have hj16 : j < 16 := by
    refine Nat.lt_of_not_le fun hle => ?_
    have := Nat.testBit_lt_two_pow (Nat.lt_of_lt_of_le h1 (Nat.pow_le_pow_right (show 0 < 2 by decide) hle : 2 ^ 16 ≤ 2 ^ j))
    rw [hj] at this
    exact absurd this (by decide)
  intro hz
  have := revB_bit W 16 j (Nat.le_refl _) (by omega)
  rw [hz, hj, decide_eq_true hj16] at this
  simp at this

/-! ### three rows over one another -/
theorem bits_xor_bit (x y : Int) (j : Nat) (hj : j < 64) : Go.bits .xor .i64 x y / 2 ^ j % 2 = (x / 2 ^ j % 2 + y / 2 ^ j % 2) % 2 := by
  have hp := two_pow_pos j
  have hw : ∀ N : Int, IntKind.i64.wrap N / 2 ^ j % 2 = N / 2 ^ j % 2 := by
    intro N
    rw [IntKind.wrap_i64]
    obtain ⟨q, hq⟩ : ∃ q : Int, (N + 9223372036854775808) % 18446744073709551616 - 9223372036854775808 = N + q * 18446744073709551616 := ⟨-((N + 9223372036854775808) / 18446744073709551616), by omega⟩
    rw [hq]
    have h64 : (18446744073709551616 : Int) = 2 ^ j * (2 * 2 ^ (63 - j)) := by
      rw [← Int.pow_succ', ← Int.pow_add, show j + (63 - j + 1) = 64 by omega]; rfl
    rw [h64, show q * (2 ^ j * (2 * 2 ^ (63 - j))) = 2 ^ j * (q * (2 * 2 ^ (63 - j))) by rw [Int.mul_left_comm], Int.add_mul_ediv_left _ _ (by omega),
      show q * (2 * 2 ^ (63 - j)) = 2 * (q * 2 ^ (63 - j)) by rw [Int.mul_left_comm], Int.add_mul_emod_self_left]
  have hn : ∀ z : Int, ((BitVec.ofInt 64 z).toNat : Int) / 2 ^ j % 2 = z / 2 ^ j % 2 := by
    intro z
    have : ((BitVec.ofInt 64 z).toNat : Int) = z % 18446744073709551616 := by
      rw [BitVec.toNat_ofInt]
      exact Int.toNat_of_nonneg (Int.emod_nonneg _ (by decide))
    rw [this, ← hw (z % 18446744073709551616), ← hw z]
    congr 2
    rw [IntKind.wrap_i64, IntKind.wrap_i64]
    omega
  have hx := hn x
  have hy := hn y
  unfold Go.bits
  show IntKind.i64.wrap ((BitVec.ofInt 64 x ^^^ BitVec.ofInt 64 y).toNat : Int) / 2 ^ j % 2 = _
  rw [hw, ← hx, ← hy, BitVec.toNat_xor]
  generalize (BitVec.ofInt 64 x).toNat = a
  generalize (BitVec.ofInt 64 y).toNat = b
  have hnat : (a ^^^ b) / 2 ^ j % 2 = (a / 2 ^ j % 2 + b / 2 ^ j % 2) % 2 := by
    rw [Nat.xor_div_two_pow]
    have := Nat.xor_mod_two_pow (a := a / 2 ^ j) (b := b / 2 ^ j) (n := 1)
    rw [Nat.pow_one] at this
    rw [this]
    rcases (show a / 2 ^ j % 2 = 0 ∨ a / 2 ^ j % 2 = 1 by omega) with h | h <;> rcases (show b / 2 ^ j % 2 = 0 ∨ b / 2 ^ j % 2 = 1 by omega) with h2 | h2 <;> rw [h, h2] <;> rfl
  exact_mod_cast hnat
theorem bitC_digit (b : Int) (h : b = 0 ∨ b = 1) : (bitC b).toNat - 48 = b.toNat := by
  rcases h with rfl | rfl <;> rfl
theorem sumF_three (x y z w : Int) : ∀ (m n1 n2 n3 : Nat), n1 < 65536 → n2 < 65536 → n3 < 65536 → (∀ j, j < m → w / 2 ^ j % 2 = ((x / 2 ^ j % 2 + y / 2 ^ j % 2) % 2 + z / 2 ^ j % 2) % 2) →
    sumF (bitL w m) ((n1 ^^^ n2) ^^^ n3) = (sumF (bitL x m) n1 ^^^ sumF (bitL y m) n2) ^^^ sumF (bitL z m) n3
  | 0, _, _, _, _, _, _, _ => rfl
  | m + 1, n1, n2, n3, h1, h2, h3, h => by
    have hm := h m (by omega)
    have bx : x / 2 ^ m % 2 = 0 ∨ x / 2 ^ m % 2 = 1 := by omega
    have by_ : y / 2 ^ m % 2 = 0 ∨ y / 2 ^ m % 2 = 1 := by omega
    have bz : z / 2 ^ m % 2 = 0 ∨ z / 2 ^ m % 2 = 1 := by omega
    have bw : w / 2 ^ m % 2 = 0 ∨ w / 2 ^ m % 2 = 1 := by omega
    have dig : (bitC (w / 2 ^ m % 2)).toNat - 48 = (((bitC (x / 2 ^ m % 2)).toNat - 48) ^^^ ((bitC (y / 2 ^ m % 2)).toNat - 48)) ^^^ ((bitC (z / 2 ^ m % 2)).toNat - 48) := by
      rw [bitC_digit _ bw, bitC_digit _ bx, bitC_digit _ by_, bitC_digit _ bz, hm]
      rcases bx with e | e <;> rcases by_ with e2 | e2 <;> rcases bz with e3 | e3 <;> rw [e, e2, e3] <;> rfl
    have b01 : ∀ q : Int, q = 0 ∨ q = 1 → bit01 ((bitC q).toNat - 48) := by
      intro q hq
      rcases hq with rfl | rfl
      · exact .inl rfl
      · exact .inr rfl
    rw [bitL, bitL, bitL, bitL]
    show sumF (bitL w m) (sumStep ((n1 ^^^ n2) ^^^ n3) _) = (sumF (bitL x m) (sumStep n1 _) ^^^ sumF (bitL y m) (sumStep n2 _)) ^^^ sumF (bitL z m) (sumStep n3 _)
    rw [dig, step_xor _ _ _ _ (xor_lt16 h1 h2) h3 (bit01_xor (b01 _ bx) (b01 _ by_)) (b01 _ bz), step_xor _ _ _ _ h1 h2 (b01 _ bx) (b01 _ by_)]
    exact sumF_three x y z w m _ _ _ (sumStep_lt _ _) (sumStep_lt _ _) (sumStep_lt _ _) fun j hj => h j (by omega)
end Go.Proofs.Ytnggjnhfdjjphaa.Pure
