-- Written by the session's own program (wip/gen).
import Derived.Test.YtnggjnhfdjjphaaPSAx0
namespace Go.Proofs.Ytnggjnhfdjjphaa.PSA
open Go.RowKit Go.Proofs.YtnggjnhfdjjphaaW.PrintWords Go.Proofs.YtnggjnhfdjjphaaW.PrintLast Go.Proofs.YtnggjnhfdjjphaaW.PrintMore
attribute [local go_sem] max2_int min2_int max_two min_two max_three min_three max_four min_four   -- for this text's walks alone
set_option linter.unusedVariables false
set_option linter.unusedSimpArgs false

theorem run_index_string_at {P : Program} (t : TypeId) (s : ByteArray) (i : Int) (h : P.underlying t = some .string) (h0 : 0 ≤ i) (h1 : i < (s.size : Int)) (W : World) :
    (Instr.index t (.string s) (.int .i64 i)).run P W = .ok (.int .u8 (bt s i)) W := by
  rw [run_index_string W t s .i64 i h]
  have hn : i.toNat < s.size := by omega
  simp [h0, h1, bt, hn]

/-! ### sym_bit: function 59 -/
def sym_bit.f (a0 : Int) : Option (Bool) := if a0 = 48 then (some true) else (some (a0 == 49))
set_option maxHeartbeats 8000000 in
set_option maxRecDepth 100000 in
theorem sym_bit.calls (a0 : Int) (r : Bool) (w : World) (h : sym_bit.f a0 = some r) :
    Calls Try.prog 59 #[.int .i32 a0] w fun e w' => e = .returned (.bool r) ∧ Drawn0 w w' := by
  have H : (if a0 = 48 then (some true) else (some (a0 == 49))) = some r := h
  clear h
  by_cases c2 : a0 = 48
  · rw [if_pos c2] at H
    have c2b0 : (a0 == 48) = true := beq_iff_eq.mpr c2
    have c2b1 : (a0 != 48) = false := bne_eq_false_iff_eq.mpr c2
    clear c2
    obtain rfl := Option.some.inj H
    go_enter Try.func59, Try.ntmps59
    go_wp2
    go_ret
    exact ⟨by first | rfl | (simp; done) | (simp [*]; done), by repeat (first | exact Drawn0.refl _ | apply Drawn0.step)⟩
  · rw [if_neg c2] at H
    have c2b0 : (a0 == 48) = false := beq_eq_false_iff_ne.mpr c2
    have c2b1 : (a0 != 48) = true := bne_iff_ne.mpr c2
    obtain rfl := Option.some.inj H
    go_enter Try.func59, Try.ntmps59
    go_wp2
    go_ret
    exact ⟨by first | rfl | (simp; done) | (simp [*]; done), by repeat (first | exact Drawn0.refl _ | apply Drawn0.step)⟩

-- (by hand: runes.aux)
theorem drop_at (s : ByteArray) (pos : Nat) (h : pos < s.size) : s.data.toList.drop pos = s[pos]'h :: s.data.toList.drop (pos + 1) := by
  have h' : pos < s.data.toList.length := by simpa using h
  rw [List.drop_eq_getElem_cons h']; rfl
theorem extract_all (s : ByteArray) (n : Nat) (h : s.size ≤ n) : s.extract 0 n = s := by
  apply ByteArray.ext
  rw [ByteArray.data_extract]
  apply Array.ext'
  rw [Array.toList_extract]
  simp
  exact List.take_of_length_le (by simpa using h)
/-- A sign of a text, as the range has it: of an ASCII byte the byte; else it is no ASCII sign. -/
theorem rune_at (s : ByteArray) (pos : Nat) (h : pos < s.size) :
    ∃ r n, Utf8.decode s pos = (r, n) ∧ 1 ≤ n ∧ (((s[pos]'h).toNat < 128 ∧ r = (s[pos]'h).toNat ∧ n = 1) ∨ (128 ≤ (s[pos]'h).toNat ∧ 128 ≤ r)) := by
  by_cases ha : (s[pos]'h).toNat < 128
  · exact ⟨_, _, decode_ascii s pos h ha, Nat.le_refl _, .inl ⟨ha, rfl, rfl⟩⟩
  · have := decode_high s pos h (by omega)
    exact ⟨_, _, rfl, this.2, .inr ⟨by omega, this.1⟩⟩

-- (by hand: sym.bitret)
theorem bit_ret (r : Int) (b : Bool) (w : World) (h : b = (r == 48 || r == 49)) :
    Calls Try.prog 59 #[.int .i32 r] w fun e w' => e = .returned (.bool b) ∧ w = w' := by
  subst h
  by_cases c2 : r = 48
  · have c2b0 : (r == 48) = true := beq_iff_eq.mpr c2
    have hc : (r == 48 || r == 49) = true := by simp [c2]
    rw [hc]
    clear c2 hc
    go_enter Try.func59, Try.ntmps59
    go_wp2
    go_ret
    exact ⟨rfl, rfl⟩
  · have c2b0 : (r == 48) = false := beq_eq_false_iff_ne.mpr c2
    have hc : (r == 48 || r == 49) = (r == 49) := by rw [c2b0]; rfl
    rw [hc]
    clear c2 hc
    go_enter Try.func59, Try.ntmps59
    go_wp2
    go_ret
    exact ⟨rfl, rfl⟩

/-! ### sym_Clean: function 38 (by hand) -/
/-- How many bytes of a text stand in the stream at its front. -/
def cleanLen : List UInt8 → Nat
  | [] => 0
  | c :: l => if c.toNat = 35 then 1 else if c.toNat = 48 ∨ c.toNat = 49 then cleanLen l + 1 else 0
theorem cleanLen_le : ∀ l : List UInt8, cleanLen l ≤ l.length
  | [] => Nat.le_refl _
  | c :: l => by
    have := cleanLen_le l
    unfold cleanLen
    split
    · simp
    · split
      · simp; omega
      · simp
def sym_Clean.f (a0 : ByteArray) : Option ByteArray := if a0.size ≤ 4611686018427387904 then some (a0.extract 0 (cleanLen a0.data.toList)) else none
set_option maxRecDepth 100000 in
theorem sym_Clean.calls (a0 : ByteArray) (r : ByteArray) (w : World) (h : sym_Clean.f a0 = some r) :
    Calls Try.prog 38 #[.string a0] w fun e w' => e = .returned (.string r) ∧ Below w.heap.size w w' := by
  have hs : a0.size ≤ 4611686018427387904 := by
    unfold sym_Clean.f at h
    split at h
    · assumption
    · exact absurd h (by simp)
  obtain rfl : a0.extract 0 (cleanLen a0.data.toList) = r := by
    unfold sym_Clean.f at h
    rw [if_pos hs] at h
    exact Option.some.inj h
  clear h
  go_enter Try.func38, Try.ntmps38
  go_wp2
  go_loopw [3] (fun i w' => ∃ (pos : Nat) (x : Value), w' = w.iter a0 pos ∧ i = x ∧ Aside0 (cleanLen a0.data.toList = pos + cleanLen (a0.data.toList.drop pos))) (fun _ w' => a0.size - w'.iterPos w.heap.size)
  case atStart => exact ⟨0, _, rfl, rfl, ⟨by simp⟩⟩
  case round =>
    obtain ⟨pos, x, rfl, rfl, HC⟩ := hrel
    by_cases hp : pos < a0.size
    · obtain ⟨rv, n, hd, hn, hcase⟩ := rune_at a0 pos hp
      have hnx : ∀ ty, (Instr.next (.pointer (some ⟨w.heap.size, 0, none⟩)) true ty).run Try.prog (w.iter a0 pos) = .ok (.tuple #[.bool true, .int .i64 pos, .int .i32 rv]) (w.iter a0 (pos + n)) := fun ty => by
        have := run_next_any (P := Try.prog) w a0 pos ty hp
        rw [hd] at this
        exact this
      have hdr := drop_at a0 pos hp
      rw [hdr] at HC
      clear hd hdr
      by_cases h35 : (a0[pos]'hp).toNat = 35
      · have hr : rv = 35 := by omega
        have hb : ((rv : Int) == 35) = true := by simp [hr]
        have HC' : Aside0 (cleanLen a0.data.toList = pos + 1) := ⟨by rw [HC.out]; simp [cleanLen, h35]⟩
        clear HC h35 hcase hr
        go_wp2
        go_ret
        refine ⟨?_, (Below.refl _ _).alloc (Nat.le_refl _) _⟩
        rw [HC'.out]
        simp
      · have hb : ((rv : Int) == 35) = false := by
          rw [beq_eq_false_iff_ne]; omega
        by_cases h01 : (a0[pos]'hp).toNat = 48 ∨ (a0[pos]'hp).toNat = 49
        · have hbit : true = ((rv : Int) == 48 || (rv : Int) == 49) := by
            rcases h01 with h | h
            · have : rv = 48 := by omega
              simp [this]
            · have : rv = 49 := by omega
              simp [this]
          obtain rfl : n = 1 := by omega
          have HC' : Aside0 (cleanLen a0.data.toList = pos + 1 + cleanLen (a0.data.toList.drop (pos + 1))) := ⟨by rw [HC.out]; simp only [cleanLen, h35, h01, if_true, if_false]; omega⟩
          have HB := Aside0.mk hbit
          clear HC h35 hcase h01 hbit
          go_wp2_with (go_at_call 59; refine (bit_ret _ _ _ HB.out).mono ?_; rintro e w' ⟨rfl, rfl⟩)
          go_roundw
          case rel => exact ⟨pos + 1, _, rfl, rfl, HC'⟩
          case measure => simp; omega
        · have hbit : false = ((rv : Int) == 48 || (rv : Int) == 49) := by
            have h48 : ((rv : Int) == 48) = false := by rw [beq_eq_false_iff_ne]; omega
            have h49 : ((rv : Int) == 49) = false := by rw [beq_eq_false_iff_ne]; omega
            rw [h48, h49]; rfl
          have HC' : Aside0 (cleanLen a0.data.toList = pos) := ⟨by rw [HC.out]; simp only [cleanLen, h35, h01, if_false]; omega⟩
          have HB := Aside0.mk hbit
          clear HC h35 hcase h01 hbit
          go_wp2_with (go_at_call 59; refine (bit_ret _ _ _ HB.out).mono ?_; rintro e w' ⟨rfl, rfl⟩)
          go_ret
          refine ⟨?_, (Below.refl _ _).alloc (Nat.le_refl _) _⟩
          rw [HC'.out]
          simp
    · have hnx : ∀ ty, (Instr.next (.pointer (some ⟨w.heap.size, 0, none⟩)) true ty).run Try.prog (w.iter a0 pos) = _ := fun ty => run_next_end w a0 pos ty hp
      have HC' : Aside0 (cleanLen a0.data.toList ≥ a0.size) := ⟨by rw [HC.out]; omega⟩
      clear HC
      go_wp2
      go_ret
      refine ⟨?_, (Below.refl _ _).alloc (Nat.le_refl _) _⟩
      have : a0.extract 0 (cleanLen a0.data.toList) = a0 := extract_all a0 _ HC'.out
      rw [this]
      rfl

end Go.Proofs.Ytnggjnhfdjjphaa.PSA
