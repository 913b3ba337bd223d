-- Written by the session's own program (wip/gen).
import Derived.Test.YtoamchhmehpgoaaGreatDoorPSJx0
import Derived.Test.YtoamchhmehpgoaaGreatDoorPSJx2
namespace Go.Proofs.YtoamchhmehpgoaaGreatDoor.PSJ
open Go.RowKit Go.Proofs.YtoamchhmehpgoaaGreatDoorW.PrintWords Go.Proofs.YtoamchhmehpgoaaGreatDoorW.PrintLast Go.Proofs.YtoamchhmehpgoaaGreatDoorW.PrintMore
attribute [local go_sem] max2_int min2_int max_two min_two max_three min_three max_four min_four   -- for this text's walks alone
set_option linter.unusedVariables false
set_option linter.unusedSimpArgs false

/-! ### crc_Sum: function 174 (by hand) -/
/-- A sum, one bit later. -/
def sumStep (n b : Nat) : Nat := if n / 32768 = b then 2 * n % 65536 else (2 * n % 65536) ^^^ 4129
def sumGo : Nat → List UInt8 → Option Nat
  | n, [] => some n
  | n, c :: l => if c.toNat = 48 ∨ c.toNat = 49 then sumGo (sumStep n (c.toNat - 48)) l else none
theorem sumStep_lt (n b : Nat) : sumStep n b < 65536 := by
  unfold sumStep
  split
  · omega
  · exact Nat.xor_lt_two_pow (n := 16) (by omega) (by omega)
def crc_Sum.f (a0 : ByteArray) : Option Int := (sumGo 65535 a0.data.toList).map fun (n : Nat) => (n : Int)
set_option maxRecDepth 100000 in
theorem sum_walk (a0 : ByteArray) (w : World) (r : Nat) (hr : Aside0 (sumGo 65535 a0.data.toList = some r)) :
    Calls Tryz.prog 174 #[.string a0] w fun e w' => e = .returned (.int .i64 r) ∧ Below w.heap.size w w' := by
  go_enter Tryz.func174, Tryz.ntmps174
  go_wp2
  go_loopw [3] (fun i w' => ∃ (pos : Nat) (v : Nat), w' = w.iter a0 pos ∧ i = .int .i64 v ∧ v < 65536 ∧ Aside0 (sumGo v (a0.data.toList.drop pos) = some r)) (fun _ w' => a0.size - w'.iterPos w.heap.size)
  case atStart => exact ⟨0, 65535, rfl, rfl, by omega, by simpa using hr⟩
  case round =>
    obtain ⟨pos, v, rfl, rfl, hv, HC⟩ := hrel
    by_cases hp : pos < a0.size
    · obtain ⟨rv, n, hd, hn, hcase⟩ := rune_at a0 pos hp
      have hnx : ∀ ty, (Instr.next (.pointer (some ⟨w.heap.size, 0, none⟩)) true ty).run Tryz.prog (w.iter a0 pos) = .ok (.tuple #[.bool true, .int .i64 pos, .int .i32 rv]) (w.iter a0 (pos + n)) := fun ty => by
        have := run_next_any (P := Tryz.prog) w a0 pos ty hp
        rw [hd] at this
        exact this
      have hdr := drop_at a0 pos hp
      rw [hdr] at HC
      clear hd hdr
      by_cases h01 : (a0[pos]'hp).toNat = 48 ∨ (a0[pos]'hp).toNat = 49
      · obtain rfl : n = 1 := by omega
        obtain ⟨b, rfl, hb1⟩ : ∃ b, rv = 48 + b ∧ b ≤ 1 := ⟨rv - 48, by omega, by omega⟩
        have HC' : Aside0 (sumGo (sumStep v b) (a0.data.toList.drop (pos + 1)) = some r) := ⟨by
          have := HC.out
          rw [sumGo, if_pos h01] at this
          rw [← this]; congr 2; omega⟩
        have HS := Aside0.mk (sumStep_lt v b)
        clear HC hcase h01
        have e1 : bits .and .i64 ((v : Int) * 2) 65535 = ((2 * v % 65536 : Nat) : Int) := by
          have := bits_and_i64 (2 * v) 65535 (by omega) (by omega)
          rw [show (v : Int) * 2 = ((2 * v : Nat) : Int) by omega]
          refine this.trans ?_
          rw [show 65535 = 2 ^ 16 - 1 from rfl, Nat.and_two_pow_sub_one_eq_mod]
        have e2 : bits .and .i64 (48 + (b : Int) - 48) 1 = (b : Int) := by
          rw [show (48 : Int) + (b : Int) - 48 = (b : Int) by omega]
          refine (bits_and_i64 b 1 (by omega) (by omega)).trans ?_
          have : b = 0 ∨ b = 1 := by omega
          rcases this with rfl | rfl <;> rfl
        have e3 : bits .xor .i64 (((2 * v % 65536 : Nat) : Int)) 4129 = (((2 * v % 65536) ^^^ 4129 : Nat) : Int) := bits_xor_i64 _ 4129 (by omega) (by omega)
        go_wp2
        · have hne : ((v : Int) / 32768 != (b : Int)) = true := by assumption
          have hs : sumStep v b = (2 * v % 65536) ^^^ 4129 := by
            rw [bne_iff_ne] at hne
            exact if_neg (by omega)
          go_roundw
          case rel => exact ⟨pos + 1, sumStep v b, rfl, by rw [hs, show (2 : Int) * (v : Int) % 65536 = ((2 * v % 65536 : Nat) : Int) by omega, e3], HS.out, HC'⟩
          case measure => simp; omega
        · have hne : ((v : Int) / 32768 != (b : Int)) = false := by assumption
          have hs : sumStep v b = 2 * v % 65536 := by
            rw [bne_eq_false_iff_eq] at hne
            exact if_pos (by omega)
          go_roundw
          case rel => exact ⟨pos + 1, sumStep v b, rfl, by rw [hs, show (2 : Int) * (v : Int) % 65536 = ((2 * v % 65536 : Nat) : Int) by omega], HS.out, HC'⟩
          case measure => simp; omega
      · exfalso
        have := HC.out
        rw [sumGo, if_neg h01] at this
        exact absurd this (by simp)
    · have hnx : ∀ ty, (Instr.next (.pointer (some ⟨w.heap.size, 0, none⟩)) true ty).run Tryz.prog (w.iter a0 pos) = _ := fun ty => run_next_end w a0 pos ty hp
      have hvr : v = r := by
        have := HC.out
        rw [List.drop_of_length_le (by simp; omega)] at this
        exact Option.some.inj this
      clear HC
      subst hvr
      go_wp2
      go_ret
      exact ⟨rfl, (Below.refl _ _).alloc (Nat.le_refl _) _⟩
theorem crc_Sum.calls (a0 : ByteArray) (r : Int) (w : World) (h : crc_Sum.f a0 = some r) :
    Calls Tryz.prog 174 #[.string a0] w fun e w' => e = .returned (.int .i64 r) ∧ Below w.heap.size w w' := by
  obtain ⟨n, hn, rfl⟩ := Option.map_eq_some_iff.1 h
  exact sum_walk a0 w n ⟨hn⟩

-- NOT PRINTED: function 149 (crc_Wrap)

-- NOT PRINTED: function 116 (frame_Text)

-- NOT PRINTED: function 117 (net_each_int)

-- NOT PRINTED: function 211 (sym_bit)

-- (by hand: sym.bitret)
theorem bit_ret (r : Int) (b : Bool) (w : World) (h : b = (r == 48 || r == 49)) :
    Calls Tryz.prog 211 #[.int .i32 r] w fun e w' => e = .returned (.bool b) ∧ w = w' := by
  subst h
  by_cases c2 : r = 48
  · have c2b0 : (r == 48) = true := beq_iff_eq.mpr c2
    have hc : (r == 48 || r == 49) = true := by simp [c2]
    rw [hc]
    clear c2 hc
    go_enter Tryz.func211, Tryz.ntmps211
    go_wp2
    go_ret
    exact ⟨rfl, rfl⟩
  · have c2b0 : (r == 48) = false := beq_eq_false_iff_ne.mpr c2
    have hc : (r == 48 || r == 49) = (r == 49) := by rw [c2b0]; rfl
    rw [hc]
    clear c2 hc
    go_enter Tryz.func211, Tryz.ntmps211
    go_wp2
    go_ret
    exact ⟨rfl, rfl⟩

/-! ### sym_Clean: function 196 (by hand) -/
/-- How many bytes of a text stand in the stream at its front. -/
def cleanLen : List UInt8 → Nat
  | [] => 0
  | c :: l => if c.toNat = 35 then 1 else if c.toNat = 48 ∨ c.toNat = 49 then cleanLen l + 1 else 0
theorem cleanLen_le : ∀ l : List UInt8, cleanLen l ≤ l.length
  | [] => Nat.le_refl _
  | c :: l => by
    have := cleanLen_le l
    unfold cleanLen
    split
    · simp
    · split
      · simp; omega
      · simp
def sym_Clean.f (a0 : ByteArray) : Option ByteArray := if a0.size ≤ 4611686018427387904 then some (a0.extract 0 (cleanLen a0.data.toList)) else none
set_option maxRecDepth 100000 in
theorem sym_Clean.calls (a0 : ByteArray) (r : ByteArray) (w : World) (h : sym_Clean.f a0 = some r) :
    Calls Tryz.prog 196 #[.string a0] w fun e w' => e = .returned (.string r) ∧ Below w.heap.size w w' := by
  have hs : a0.size ≤ 4611686018427387904 := by
    unfold sym_Clean.f at h
    split at h
    · assumption
    · exact absurd h (by simp)
  obtain rfl : a0.extract 0 (cleanLen a0.data.toList) = r := by
    unfold sym_Clean.f at h
    rw [if_pos hs] at h
    exact Option.some.inj h
  clear h
  go_enter Tryz.func196, Tryz.ntmps196
  go_wp2
  go_loopw [3] (fun i w' => ∃ (pos : Nat) (x : Value), w' = w.iter a0 pos ∧ i = x ∧ Aside0 (cleanLen a0.data.toList = pos + cleanLen (a0.data.toList.drop pos))) (fun _ w' => a0.size - w'.iterPos w.heap.size)
  case atStart => exact ⟨0, _, rfl, rfl, ⟨by simp⟩⟩
  case round =>
    obtain ⟨pos, x, rfl, rfl, HC⟩ := hrel
    by_cases hp : pos < a0.size
    · obtain ⟨rv, n, hd, hn, hcase⟩ := rune_at a0 pos hp
      have hnx : ∀ ty, (Instr.next (.pointer (some ⟨w.heap.size, 0, none⟩)) true ty).run Tryz.prog (w.iter a0 pos) = .ok (.tuple #[.bool true, .int .i64 pos, .int .i32 rv]) (w.iter a0 (pos + n)) := fun ty => by
        have := run_next_any (P := Tryz.prog) w a0 pos ty hp
        rw [hd] at this
        exact this
      have hdr := drop_at a0 pos hp
      rw [hdr] at HC
      clear hd hdr
      by_cases h35 : (a0[pos]'hp).toNat = 35
      · have hr : rv = 35 := by omega
        have hb : ((rv : Int) == 35) = true := by simp [hr]
        have HC' : Aside0 (cleanLen a0.data.toList = pos + 1) := ⟨by rw [HC.out]; simp [cleanLen, h35]⟩
        clear HC h35 hcase hr
        go_wp2
        go_ret
        refine ⟨?_, (Below.refl _ _).alloc (Nat.le_refl _) _⟩
        rw [HC'.out]
        simp
      · have hb : ((rv : Int) == 35) = false := by
          rw [beq_eq_false_iff_ne]; omega
        by_cases h01 : (a0[pos]'hp).toNat = 48 ∨ (a0[pos]'hp).toNat = 49
        · have hbit : true = ((rv : Int) == 48 || (rv : Int) == 49) := by
            rcases h01 with h | h
            · have : rv = 48 := by omega
              simp [this]
            · have : rv = 49 := by omega
              simp [this]
          obtain rfl : n = 1 := by omega
          have HC' : Aside0 (cleanLen a0.data.toList = pos + 1 + cleanLen (a0.data.toList.drop (pos + 1))) := ⟨by rw [HC.out]; simp only [cleanLen, h35, h01, if_true, if_false]; omega⟩
          have HB := Aside0.mk hbit
          clear HC h35 hcase h01 hbit
          go_wp2_with (go_at_call 211; refine (bit_ret _ _ _ HB.out).mono ?_; rintro e w' ⟨rfl, rfl⟩)
          go_roundw
          case rel => exact ⟨pos + 1, _, rfl, rfl, HC'⟩
          case measure => simp; omega
        · have hbit : false = ((rv : Int) == 48 || (rv : Int) == 49) := by
            have h48 : ((rv : Int) == 48) = false := by rw [beq_eq_false_iff_ne]; omega
            have h49 : ((rv : Int) == 49) = false := by rw [beq_eq_false_iff_ne]; omega
            rw [h48, h49]; rfl
          have HC' : Aside0 (cleanLen a0.data.toList = pos) := ⟨by rw [HC.out]; simp only [cleanLen, h35, h01, if_false]; omega⟩
          have HB := Aside0.mk hbit
          clear HC h35 hcase h01 hbit
          go_wp2_with (go_at_call 211; refine (bit_ret _ _ _ HB.out).mono ?_; rintro e w' ⟨rfl, rfl⟩)
          go_ret
          refine ⟨?_, (Below.refl _ _).alloc (Nat.le_refl _) _⟩
          rw [HC'.out]
          simp
    · have hnx : ∀ ty, (Instr.next (.pointer (some ⟨w.heap.size, 0, none⟩)) true ty).run Tryz.prog (w.iter a0 pos) = _ := fun ty => run_next_end w a0 pos ty hp
      have HC' : Aside0 (cleanLen a0.data.toList ≥ a0.size) := ⟨by rw [HC.out]; omega⟩
      clear HC
      go_wp2
      go_ret
      refine ⟨?_, (Below.refl _ _).alloc (Nat.le_refl _) _⟩
      have : a0.extract 0 (cleanLen a0.data.toList) = a0 := extract_all a0 _ HC'.out
      rw [this]
      rfl

-- NOT PRINTED: function 252 (stringslite_HasSuffix)

-- NOT PRINTED: function 240 (strings_HasSuffix)

-- NOT PRINTED: function 231 (sym_Whole)

-- NOT PRINTED: function 216 (crc_Open)

-- NOT PRINTED: function 217 (frame_reader_next)

-- NOT PRINTED: function 218 (frame_reader_item)

-- NOT PRINTED: function 219 (frame_echoes)

-- NOT PRINTED: function 232 (frame_empty)

-- NOT PRINTED: function 233 (frame_value)

-- NOT PRINTED: function 241 (api_Item_241)

-- NOT PRINTED: function 234 (api_Item_234)

-- NOT PRINTED: function 220 (frame_Check)

-- NOT PRINTED: function 221 (api_Item_221)

-- NOT PRINTED: function 203 (frame_Read)

-- NOT PRINTED: function 184 (arb_Right)

-- NOT PRINTED: function 155 (arb_rights)

-- NOT PRINTED: function 156 (arb_first)

-- NOT PRINTED: function 124 (arb_Pick)

-- NOT PRINTED: function 86 (net_Net_run)

-- NOT PRINTED: function 87 (net_node)

-- NOT PRINTED: function 55 (net_Net_Step)

-- NOT PRINTED: function 190 (strconv_small)

-- NOT PRINTED: function 206 (strconv_log10Pow2)

-- NOT PRINTED: function 207 (bits_Len64)

-- NOT PRINTED: function 208 (strconv_bool2_int)

-- NOT PRINTED: function 191 (strconv_numDigits)

-- NOT PRINTED: function 192 (strconv_formatBase10)

-- NOT PRINTED: function 209 (strconv_isPowerOfTwo)

-- NOT PRINTED: function 225 (bits_TrailingZeros32)

-- NOT PRINTED: function 226 (bits_TrailingZeros64)

-- NOT PRINTED: function 210 (bits_TrailingZeros)

-- NOT PRINTED: function 193 (strconv_formatBits)

-- NOT PRINTED: function 169 (strconv_FormatInt)

-- NOT PRINTED: function 130 (strconv_Itoa_130)

-- NOT PRINTED: function 89 (strconv_Itoa_89)

-- NOT PRINTED: function 66 (bytealg_MakeNoZero)

-- NOT PRINTED: function 45 (strings_Builder_grow)

-- NOT PRINTED: function 25 (strings_Builder_Grow)

-- NOT PRINTED: function 90 (strings_Join)

-- NOT PRINTED: function 56 (shell_told)

-- NOT PRINTED: function 57 (net_Net_Round)

-- NOT PRINTED: function 35 (shell_script_run)

-- NOT PRINTED: function 36 (shell_script_of)

-- NOT PRINTED: function 91 (net_Net_at)

-- NOT PRINTED: function 59 (net_Net_State)

-- NOT PRINTED: function 60 (net_Net_Clock)

-- NOT PRINTED: function 37 (shell_script_state)

-- NOT PRINTED: function 92 (api_Line)

-- NOT PRINTED: function 61 (net_Net_Log)

-- NOT PRINTED: function 38 (shell_script_log)

-- NOT PRINTED: function 93 (slices_Max_int_int)

-- NOT PRINTED: function 94 (slices_Min_int_int)

/-! ### sync_Skew: function 62 (by hand) -/
/-! #### slices.Max, slices.Min at ints -/
theorem add_block2_ (ad : Addr) (j : Nat) : (ad.add j).block = ad.block := by unfold Addr.add; split <;> rfl
def at_ (zs : List Int) (j : Nat) : Int := zs[j]?.getD 0
theorem at_get (zs : List Int) (j : Nat) (h : j < zs.length) : at_ zs j = zs[j] := by simp [at_, h]
def mxGo : List Int → Int → Int
  | [], m => m
  | x :: l, m => mxGo l (mx m x)
def mnGo : List Int → Int → Int
  | [], m => m
  | x :: l, m => mnGo l (mn m x)
set_option maxHeartbeats 1000000 in
theorem max_walk (ad : Addr) (cap : Nat) (zs : List Int) (h0 : 0 < zs.length) (h1 : zs.length ≤ 1000000) (w : World) (hcs : ∀ j, j < zs.length → w.cell? (ad.add j) = some (.int .i64 (at_ zs j))) :
    Calls Tryz.prog 93 #[.slice (some ad) zs.length cap] w fun e w' => e = .returned (.int .i64 (mxGo (zs.drop 1) (at_ zs 0))) ∧ Below w.heap.size w w' := by
  have hd : decide ((zs.length : Int) < 1) = false := by simp; omega
  have hd2 : decide (zs.length < 1) = false := by rw [decide_eq_false_iff_not]; omega
  have hc0 := hcs 0 h0
  rw [Addr.add_zero'] at hc0
  generalize hr : mxGo (zs.drop 1) (at_ zs 0) = r
  go_enter Tryz.func93, Tryz.ntmps93
  go_wp2
  go_loopw [3, 4] (fun m i w' => ∃ (v : Int) (k : Nat), m = .int .i64 v ∧ i = .int .i64 k ∧ k ≤ zs.length ∧ mxGo (zs.drop k) v = r ∧ Below w.heap.size w w') (fun _ i _ => zs.length - (intOf i).toNat)
  case atStart => exact ⟨_, 1, rfl, rfl, by omega, hr, Below.refl _ _⟩
  case round =>
    obtain ⟨v, k, rfl, rfl, hk, hm, hB⟩ := hrel
    by_cases hlt : k < zs.length
    · have hck := (hB.cell (p := ad.add k) (by rw [add_block2_]; have := World.block_lt_of_cell? _ _ hc0; exact this)).trans (hcs k hlt)
      have hnext : mxGo (zs.drop (k + 1)) (mx v (at_ zs k)) = r := by
        rw [← hm, List.drop_eq_getElem_cons hlt, at_get zs k hlt]
        rfl
      go_wp2
      go_roundw
      case rel => exact ⟨_, k + 1, rfl, by simp, by omega, hnext, hB⟩
      case measure => simp [intOf]; omega
    · obtain rfl : k = zs.length := by omega
      rw [List.drop_length] at hm
      go_wp2
      go_ret
      exact ⟨by rw [← hm]; rfl, hB⟩
set_option maxHeartbeats 1000000 in
theorem min_walk (ad : Addr) (cap : Nat) (zs : List Int) (h0 : 0 < zs.length) (h1 : zs.length ≤ 1000000) (w : World) (hcs : ∀ j, j < zs.length → w.cell? (ad.add j) = some (.int .i64 (at_ zs j))) :
    Calls Tryz.prog 94 #[.slice (some ad) zs.length cap] w fun e w' => e = .returned (.int .i64 (mnGo (zs.drop 1) (at_ zs 0))) ∧ Below w.heap.size w w' := by
  have hd : decide ((zs.length : Int) < 1) = false := by simp; omega
  have hd2 : decide (zs.length < 1) = false := by rw [decide_eq_false_iff_not]; omega
  have hc0 := hcs 0 h0
  rw [Addr.add_zero'] at hc0
  generalize hr : mnGo (zs.drop 1) (at_ zs 0) = r
  go_enter Tryz.func94, Tryz.ntmps94
  go_wp2
  go_loopw [3, 4] (fun m i w' => ∃ (v : Int) (k : Nat), m = .int .i64 v ∧ i = .int .i64 k ∧ k ≤ zs.length ∧ mnGo (zs.drop k) v = r ∧ Below w.heap.size w w') (fun _ i _ => zs.length - (intOf i).toNat)
  case atStart => exact ⟨_, 1, rfl, rfl, by omega, hr, Below.refl _ _⟩
  case round =>
    obtain ⟨v, k, rfl, rfl, hk, hm, hB⟩ := hrel
    by_cases hlt : k < zs.length
    · have hck := (hB.cell (p := ad.add k) (by rw [add_block2_]; have := World.block_lt_of_cell? _ _ hc0; exact this)).trans (hcs k hlt)
      have hnext : mnGo (zs.drop (k + 1)) (mn v (at_ zs k)) = r := by
        rw [← hm, List.drop_eq_getElem_cons hlt, at_get zs k hlt]
        rfl
      go_wp2
      go_roundw
      case rel => exact ⟨_, k + 1, rfl, by simp, by omega, hnext, hB⟩
      case measure => simp [intOf]; omega
    · obtain rfl : k = zs.length := by omega
      rw [List.drop_length] at hm
      go_wp2
      go_ret
      exact ⟨by rw [← hm]; rfl, hB⟩
/-- How far numbers are apart. -/
def sync_Skew.f (l0 : List Int) : Option Int :=
  if l0.length = 0 then some 0 else if 1000000 < l0.length then none else some (wrap64 (mxGo (l0.drop 1) (at_ l0 0) - mnGo (l0.drop 1) (at_ l0 0)))
set_option maxHeartbeats 1000000 in
theorem sync_Skew.calls (A0 : Option Addr) (c0 : Nat) (l0 : List Int) (r : Int) (w : World) (hr0 : Kd.C (Kd.int .i64) w A0 l0.length l0) (hc0 : l0.length ≤ c0) (h : sync_Skew.f l0 = some r) :
    Calls Tryz.prog 62 #[.slice A0 l0.length c0] w fun e w' => e = .returned (.int .i64 r) ∧ Below w.heap.size w w' := by
  unfold sync_Skew.f at h
  by_cases h0 : l0.length = 0
  · rw [if_pos h0] at h
    obtain rfl := Option.some.inj h
    have hd : decide ((l0.length : Int) = 0) = true := by rw [decide_eq_true_eq]; omega
    have hd2 : ((l0.length : Int) == 0) = true := by rw [beq_iff_eq]; omega
    go_enter Tryz.func62, Tryz.ntmps62
    go_wp2
    go_ret
    exact ⟨rfl, Below.refl _ _⟩
  · rw [if_neg h0] at h
    by_cases hm : 1000000 < l0.length
    · rw [if_pos hm] at h
      exact absurd h (by simp)
    · rw [if_neg hm] at h
      obtain rfl := Option.some.inj h
      obtain ⟨_, _, hrow⟩ := hr0
      obtain ⟨ad, rfl, hcell⟩ := hrow (by omega)
      have hcs : ∀ j, j < l0.length → w.cell? (ad.add j) = some (.int .i64 (at_ l0 j)) := by
        intro j hj
        obtain ⟨c, _, hk, hcc⟩ := hcell j _ (List.getElem?_eq_getElem hj)
        obtain rfl : c = [.int .i64 l0[j]] := hk
        have := hcc 0 _ rfl
        rw [show j * (Kd.int .i64).sz + 0 = j by show j * 1 + 0 = j; omega] at this
        rw [this, at_get l0 j hj]
      have hb : ad.block < w.heap.size := by
        have := World.block_lt_of_cell? _ _ (hcs 0 (by omega))
        rwa [add_block2_] at this
      have hd : decide ((l0.length : Int) = 0) = false := by rw [decide_eq_false_iff_not]; omega
      have hd2 : ((l0.length : Int) == 0) = false := by rw [beq_eq_false_iff_ne]; omega
      have cM := max_walk ad c0 l0 (by omega) (by omega) w hcs
      have cN := fun (W : World) (hW : ∀ j, j < l0.length → W.cell? (ad.add j) = some (.int .i64 (at_ l0 j))) => min_walk ad c0 l0 (by omega) (by omega) W hW
      generalize mxGo (l0.drop 1) (at_ l0 0) = x at cM
      generalize mnGo (l0.drop 1) (at_ l0 0) = y at cN
      go_enter Tryz.func62, Tryz.ntmps62
      go_wp2_with (first
        | (go_at_call 93; refine cM.mono ?_; rintro e W ⟨rfl, hB⟩; have cN2 := cN W (fun j hj => (hB.cell (p := ad.add j) (by rw [add_block2_]; exact hb)).trans (hcs j hj)))
        | (go_at_call 94; refine cN2.mono ?_; rintro e W2 ⟨rfl, hB2⟩))
      go_ret
      exact ⟨rfl, hB.trans (hB2.mono hB.size)⟩

-- NOT PRINTED: function 39 (shell_script_up)

-- NOT PRINTED: function 20 (shell_script_commands)

-- NOT PRINTED: function 14 (shell_begun)

/-! ### strings_IndexByte: function 29 (by hand) -/
def strings_IndexByte.f (a0 : ByteArray) (a1 : Int) : Option Int := some (Lib.indexByte a0.data.toList a1.toNat.toUInt8)
theorem strings_IndexByte.calls (a0 : ByteArray) (a1 : Int) (r : Int) (w : World) (h : strings_IndexByte.f a0 a1 = some r) :
    Calls Tryz.prog 29 #[.string a0, .int .u8 a1] w fun e w' => e = .returned (.int .i64 r) ∧ Drawn0 w w' := by
  obtain rfl := Option.some.inj h
  exact (Tryz.strings_IndexByte a0 a1 w).mono (by rintro e w' ⟨rfl, rfl⟩; exact ⟨rfl, ⟨0, rfl⟩⟩)

end Go.Proofs.YtoamchhmehpgoaaGreatDoor.PSJ
