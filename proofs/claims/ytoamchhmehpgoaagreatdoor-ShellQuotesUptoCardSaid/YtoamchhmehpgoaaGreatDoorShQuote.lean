/- The law of quoted words, over lists alone. -/
import Derived.Test.YtoamchhmehpgoaaGreatDoorShLaws
import Derived.Test.YtoamchhmehpgoaaGreatDoorPSJx12
namespace Go.Proofs.YtoamchhmehpgoaaGreatDoor.PSJ
open Go Go.RowKit Go.Proofs.YtoamchhmehpgoaaGreatDoorW.PrintWords Go.Proofs.YtoamchhmehpgoaaGreatDoorW.PrintLast Go.Proofs.YtoamchhmehpgoaaGreatDoorW.PrintMore
attribute [local go_sem] max2_int min2_int max_two min_two max_three min_three max_four min_four
set_option linter.unusedVariables false
set_option linter.unusedSimpArgs false
def toB (l : List Int) : List UInt8 := l.map fun n => UInt8.ofNat n.toNat
theorem strOf_eq (l : List Int) : strOfNums l = S (toB l) := rfl
theorem toB_app (a b : List Int) : toB (a ++ b) = toB a ++ toB b := by simp [toB]
theorem toB_len (a : List Int) : (toB a).length = a.length := by simp [toB]
theorem byte_toNat {x : Int} (h0 : 0 ≤ x) (h1 : x < 256) : (UInt8.ofNat x.toNat).toNat = x.toNat := by
  rw [UInt8.toNat_ofNat']
  omega
theorem hex_back (x : Int) (h0 : 0 ≤ x) (h1 : x < 256) : hexd (UInt8.ofNat (bt HXS (x / 16)).toNat).toNat = some (x.toNat / 16) ∧ hexd (UInt8.ofNat (bt HXS (Go.bits .and .u8 x 15)).toNat).toNat = some (x.toNat % 16) := by
  have h : ∀ n : Fin 256, hexd (UInt8.ofNat (bt HXS (((n.val : Nat) : Int) / 16)).toNat).toNat = some (((n.val : Nat) : Int).toNat / 16) ∧ hexd (UInt8.ofNat (bt HXS (Go.bits .and .u8 ((n.val : Nat) : Int) 15)).toNat).toNat = some (((n.val : Nat) : Int).toNat % 16) := by decide +kernel
  obtain ⟨n, rfl⟩ := Int.eq_ofNat_of_zero_le h0
  exact h ⟨n, by omega⟩
theorem esc_one (c : UInt8) (r : List UInt8) (h : ¬ c.toNat = 92) : esc (c :: r) = some (c.toNat, 1) := by
  cases r <;> simp [esc, h]
theorem esc_back (x : Int) (h0 : 0 ≤ x) (h1 : x < 256) (rest : List UInt8) : ∃ c r, toB (quoB x) ++ rest = c :: r ∧ ¬ c.toNat = 34 ∧ esc (c :: r) = some (x.toNat, (quoB x).length) := by
  have hb := byte_toNat h0 h1
  have h92 : (UInt8.ofNat (Int.toNat 92)).toNat = 92 := by decide
  by_cases a : x = 92 ∨ x = 34
  · rw [quoB_1 a]
    refine ⟨UInt8.ofNat (Int.toNat 92), UInt8.ofNat x.toNat :: rest, rfl, by rw [h92]; decide, ?_⟩
    simp only [esc, if_pos h92]
    rw [if_pos (by omega), hb]; rfl
  · by_cases b : x = 10
    · rw [quoB_2 a b]; subst b
      refine ⟨UInt8.ofNat (Int.toNat 92), UInt8.ofNat (Int.toNat 110) :: rest, rfl, by rw [h92]; decide, ?_⟩
      simp only [esc, if_pos h92]; rfl
    · by_cases c : x = 9
      · rw [quoB_3 a b c]; subst c
        refine ⟨UInt8.ofNat (Int.toNat 92), UInt8.ofNat (Int.toNat 116) :: rest, rfl, by rw [h92]; decide, ?_⟩
        simp only [esc, if_pos h92]; rfl
      · by_cases d : x < 32 ∨ x > 126
        · rw [quoB_4 a b c d]
          obtain ⟨e1, e2⟩ := hex_back x h0 h1
          have h120 : (UInt8.ofNat (Int.toNat 120)).toNat = 120 := by decide
          refine ⟨UInt8.ofNat (Int.toNat 92), UInt8.ofNat (Int.toNat 120) :: UInt8.ofNat (bt HXS (x / 16)).toNat :: UInt8.ofNat (bt HXS (Go.bits .and .u8 x 15)).toNat :: rest, rfl, by rw [h92]; decide, ?_⟩
          simp only [esc, if_pos h92, h120, escX, e1, e2]
          have : 16 * (x.toNat / 16) + x.toNat % 16 = x.toNat := by omega
          simp [this]
        · rw [quoB_5 a b c d]
          refine ⟨UInt8.ofNat x.toNat, rest, rfl, by rw [hb]; omega, ?_⟩
          rw [esc_one _ _ (by rw [hb]; omega), hb]; rfl
theorem quo_back : ∀ (l : List Int), By l → ∀ rest : List UInt8, quo (toB (l.flatMap quoB) ++ UInt8.ofNat (Int.toNat 34) :: rest) = some (l, (l.flatMap quoB).length + 1)
  | [], _, rest => by rw [List.flatMap_nil]; exact quo_end _ _ (by decide)
  | x :: l, h, rest => by
    obtain ⟨x0, x1⟩ := h x (by simp)
    have ih := quo_back l (fun y hy => h y (by simp [hy])) rest
    rw [List.flatMap_cons, toB_app, List.append_assoc]
    obtain ⟨c, r, e, hc, he⟩ := esc_back x x0 x1 (toB (l.flatMap quoB) ++ UInt8.ofNat (Int.toNat 34) :: rest)
    rw [e, quo_more c r hc _ _ he, ← e, ← toB_len (quoB x), List.drop_left, ih]
    simp only [List.length_append, toB_len]
    refine congrArg some (Prod.ext ?_ (by simp only; omega))
    simp only [List.cons.injEq, and_true]
    omega
/-- A word as the law lays it: a blank ahead, a tab behind. -/
def seg (l : List Int) : List Int := 32 :: (quoted_ l ++ [9])
theorem words_seg (l : List Int) (h : By l) (rest : List UInt8) : wordsL (toB (seg l) ++ rest) = (match wordsL rest with
    | none => none
    | some ws => some (strOfNums l :: ws)) := by
  have e : toB (seg l) ++ rest = UInt8.ofNat (Int.toNat 32) :: UInt8.ofNat (Int.toNat 34) :: (toB (l.flatMap quoB) ++ UInt8.ofNat (Int.toNat 34) :: (UInt8.ofNat (Int.toNat 9) :: rest)) := by
    simp [seg, quoted_, toB]
  rw [e, wordsL_blank _ _ (by decide), wordsL_quote _ _ (by decide), quo_back l h]
  have hd : (toB (l.flatMap quoB) ++ UInt8.ofNat (Int.toNat 34) :: (UInt8.ofNat (Int.toNat 9) :: rest)).drop ((l.flatMap quoB).length + 1) = UInt8.ofNat (Int.toNat 9) :: rest := by
    rw [← toB_len (l.flatMap quoB), ← List.drop_drop, List.drop_left]; rfl
  simp only [hd]
  rw [if_pos (show ends (UInt8.ofNat (Int.toNat 9) :: rest) = true by rfl), wordsL_blank _ _ (by decide)]
  cases wordsL rest <;> rfl
theorem words_segs (behind : List UInt8) : ∀ (ls : List (List Int)), (∀ l ∈ ls, By l) → wordsL (toB (ls.flatMap seg) ++ UInt8.ofNat (Int.toNat 35) :: behind) = some (ls.map strOfNums)
  | [], _ => by rw [List.flatMap_nil]; exact wordsL_hash _ _ (by decide)
  | l :: ls, h => by
    have ih := words_segs behind ls (fun y hy => h y (by simp [hy]))
    rw [List.flatMap_cons, toB_app, List.append_assoc, words_seg l (h l (by simp)), ih]
    rfl
theorem seg_len (l : List Int) : (seg l).length ≤ 4 * l.length + 4 := by
  have := flat_len l
  simp only [seg, quoted_, List.length_cons, List.length_append, List.length_nil]
  omega
theorem q_l1 (x0 : List (List Int)) (n : Nat) (hn : n ≤ x0.length) (h20 : n ≤ 20) (N : Nat) : ∀ i : Nat, n ≤ N + i → i ≤ n → Ev (fun k => plaitinglaw18_ShellQuotes.l1 k x0 (n : Int) ((x0.take n).map strOfNums) (i : Int)) true := by
  induction N with
  | zero =>
    intro i a b
    exact Ev.done fun k => by rw [plaitinglaw18_ShellQuotes.l1, if_neg (by omega)]
  | succ N ih =>
    intro i a b
    rcases Nat.lt_or_ge i n with h1 | h1
    · refine Ev.step (ih (i + 1) (by omega) (by omega)) fun k => ?_
      have hl : ((x0.take n).map strOfNums).length = n := by rw [List.length_map, List.length_take]; omega
      have hi0 : i < x0.length := by omega
      have e1 : rdOf ByteArray.empty ((x0.take n).map strOfNums) (i : Int) = strOfNums (x0[i]'hi0) := by
        unfold rdOf
        rw [List.getD_eq_getElem?_getD, Int.toNat_natCast, List.getElem?_eq_getElem (by omega)]
        simp
      have e2 : rd_L2 x0 (i : Int) = x0[i]'hi0 := by
        unfold rd_L2
        rw [List.getD_eq_getElem?_getD, Int.toNat_natCast, List.getElem?_eq_getElem hi0]; rfl
      rw [plaitinglaw18_ShellQuotes.l1, if_pos (by omega), if_pos (by omega), if_pos (by omega), if_pos (by omega), e1, e2, if_pos rfl, w64 _ (by omega) (by omega)]; rfl
    · exact Ev.done fun k => by rw [plaitinglaw18_ShellQuotes.l1, if_neg (by omega)]
theorem q_j1 (x0 : List (List Int)) (x1 : ByteArray) (hx1 : x1.size ≤ 10000000) (hb : ∀ l ∈ x0, By l) (n : Nat) (hn : n ≤ x0.length) (h20 : n ≤ 20) (hs : ((x0.take n).flatMap seg).length ≤ 10000000) :
    Ev (fun k => plaitinglaw18_ShellQuotes.j1 k x0 x1 (S (toB ((x0.take n).flatMap seg))) (n : Int)) true := by
  have hsz : (S (toB ((x0.take n).flatMap seg))).size ≤ 10000000 := by rw [S_size, toB_len]; exact hs
  obtain ⟨b, rfl⟩ : ∃ b, x1 = S b := ⟨_, S_eta x1⟩
  rw [S_size] at hx1
  have ew : ((S (toB ((x0.take n).flatMap seg))) ++ (⟨#[35]⟩ : ByteArray)) ++ S b = S (toB ((x0.take n).flatMap seg) ++ UInt8.ofNat (Int.toNat 35) :: b) := by
    rw [show (⟨#[35]⟩ : ByteArray) = S [UInt8.ofNat (Int.toNat 35)] from rfl, S_append, S_append]; simp
  have hw := sh_Words (toB ((x0.take n).flatMap seg) ++ UInt8.ofNat (Int.toNat 35) :: b) (by rw [List.length_append, toB_len, List.length_cons]; omega)
  rw [words_segs b _ (fun l hl => hb l (List.mem_of_mem_take hl))] at hw
  have hsz1 : ((S (toB ((x0.take n).flatMap seg))) ++ (⟨#[35]⟩ : ByteArray)).size ≤ 10000001 := by
    rw [show (⟨#[35]⟩ : ByteArray) = S [35] from rfl, S_append, S_size, List.length_append, toB_len]
    simp only [List.length_cons, List.length_nil]; omega
  have hl1 := q_l1 x0 n hn h20 n 0 (by omega) (by omega)
  have hj2 : Ev (fun k => plaitinglaw18_ShellQuotes.j2 k x0 (n : Int) ((x0.take n).map strOfNums) ((((x0.take n).map strOfNums).length : Int) != (n : Int))) true := by
    refine Ev.step hl1 fun k => ?_
    have hl : ((x0.take n).map strOfNums).length = n := by rw [List.length_map, List.length_take]; omega
    rw [hl, plaitinglaw18_ShellQuotes.j2, if_neg (by simp)]; rfl
  refine Ev.step (Ev.bind hw (g := fun k bt264 => if bt264.2 = 0 then (plaitinglaw18_ShellQuotes.j2 k x0 (n : Int) bt264.1 ((bt264.1.length : Int) != (n : Int))) else (plaitinglaw18_ShellQuotes.j2 k x0 (n : Int) bt264.1 true)) (Ev.of hj2 fun k _ => by simp [wordsR])) fun k => ?_
  rw [plaitinglaw18_ShellQuotes.j1, if_pos (by omega), if_pos (by rw [S_size b]; omega), ew]
theorem q_l0 (x0 : List (List Int)) (x1 : ByteArray) (hx1 : x1.size ≤ 10000000) (hb : ∀ l ∈ x0, By l) (hlen : ∀ l ∈ x0, l.length ≤ 1048576) (N : Nat) : ∀ i : Nat, 20 ≤ N + i → i ≤ 20 → i ≤ x0.length → ((x0.take i).flatMap seg).length ≤ 10000000 →
    Ev (fun k => plaitinglaw18_ShellQuotes.l0 k x0 x1 (S (toB ((x0.take i).flatMap seg))) (i : Int) (i : Int)) true := by
  induction N with
  | zero =>
    intro i a b c d
    refine Ev.step (q_j1 x0 x1 hx1 hb i c b d) fun k => ?_
    rw [plaitinglaw18_ShellQuotes.l0]
    split
    · rw [if_neg (by omega)]
    · rfl
  | succ N ih =>
    intro i a b c d
    by_cases h1 : i < x0.length
    · by_cases h2 : i < 20
      · by_cases h3 : ((x0.take i).flatMap seg).length < 16384
        · have hm : x0[i]'h1 ∈ x0 := List.getElem_mem _
          have e2 : rd_L2 x0 (i : Int) = x0[i]'h1 := by
            unfold rd_L2
            rw [List.getD_eq_getElem?_getD, Int.toNat_natCast, List.getElem?_eq_getElem h1]; rfl
          have hq := sh_Quote (x0[i]'h1) (by have := hlen _ hm; omega) (hb _ hm)
          have et : (x0.take (i + 1)).flatMap seg = (x0.take i).flatMap seg ++ seg (x0[i]'h1) := by
            rw [List.take_succ_eq_append_getElem h1, List.flatMap_append]; simp
          have hsl := seg_len (x0[i]'h1)
          have hl1 := hlen _ hm
          have go := ih (i + 1) (by omega) (by omega) (by omega) (by rw [et, List.length_append]; omega)
          have es : ((S (toB ((x0.take i).flatMap seg)) ++ (⟨#[32]⟩ : ByteArray)) ++ strOfNums (quoted_ (x0[i]'h1))) ++ (⟨#[9]⟩ : ByteArray) = S (toB ((x0.take (i + 1)).flatMap seg)) := by
            rw [et, toB_app, show (⟨#[32]⟩ : ByteArray) = S [UInt8.ofNat (Int.toNat 32)] from rfl, show (⟨#[9]⟩ : ByteArray) = S [UInt8.ofNat (Int.toNat 9)] from rfl, strOf_eq, S_append, S_append, S_append]
            simp [seg, toB]
          have z0 : (S (toB ((x0.take i).flatMap seg))).size < 16384 := by rw [S_size, toB_len]; exact h3
          have z1 : (S (toB ((x0.take i).flatMap seg)) ++ (⟨#[32]⟩ : ByteArray)).size ≤ 16385 := by
            rw [show (⟨#[32]⟩ : ByteArray) = S [32] from rfl, S_append, S_size, List.length_append, toB_len]; simp only [List.length_cons, List.length_nil]; omega
          have zq : (strOfNums (quoted_ (x0[i]'h1))).size ≤ 5000000 := by
            rw [strOf_eq, S_size, toB_len]
            simp only [seg, List.length_cons, List.length_append] at hsl
            omega
          have z2 : ((S (toB ((x0.take i).flatMap seg)) ++ (⟨#[32]⟩ : ByteArray)) ++ strOfNums (quoted_ (x0[i]'h1))).size ≤ 6000000 := by
            rw [ByteArray.size_append]; omega
          refine Ev.step (Ev.bind hq (g := fun k t263 => if (S (toB ((x0.take i).flatMap seg)) ++ (⟨#[32]⟩ : ByteArray)).size + t263.size ≤ 9223372036854775807 then (if ((S (toB ((x0.take i).flatMap seg)) ++ (⟨#[32]⟩ : ByteArray)) ++ t263).size + 1 ≤ 9223372036854775807 then (plaitinglaw18_ShellQuotes.l0 k x0 x1 (((S (toB ((x0.take i).flatMap seg)) ++ (⟨#[32]⟩ : ByteArray)) ++ t263) ++ (⟨#[9]⟩ : ByteArray)) (wrap64 ((i : Int) + 1)) (wrap64 ((i : Int) + 1))) else (none)) else (none)) (Ev.of go fun k _ => ?_)) fun k => ?_
          · rw [if_pos (by omega), if_pos (by omega), es, w64 _ (by omega) (by omega)]; rfl
          · rw [plaitinglaw18_ShellQuotes.l0, if_pos (by omega), if_pos (by omega), if_pos (by omega), if_pos (by omega), if_pos (by omega), e2]
        · refine Ev.step (q_j1 x0 x1 hx1 hb i c b d) fun k => ?_
          rw [plaitinglaw18_ShellQuotes.l0, if_pos (by omega), if_pos (by omega), if_neg (by rw [S_size, toB_len]; omega)]
      · refine Ev.step (q_j1 x0 x1 hx1 hb i c b d) fun k => ?_
        rw [plaitinglaw18_ShellQuotes.l0, if_pos (by omega), if_neg (by omega)]
    · refine Ev.step (q_j1 x0 x1 hx1 hb i c b d) fun k => ?_
      rw [plaitinglaw18_ShellQuotes.l0, if_neg (by omega)]
/-- The second law. -/
theorem quotes_law (l0 : List (List Int)) (a1 : ByteArray) (ha : a1.size ≤ 10000000) (hb : ∀ l ∈ l0, By l) (hlen : ∀ l ∈ l0, l.length ≤ 1048576) : ∃ k, plaitinglaw18_ShellQuotes.f k l0 a1 = some true := by
  have := q_l0 l0 a1 ha hb hlen 20 0 (by omega) (by omega) (by omega) (by simp)
  obtain ⟨K, hK⟩ := this
  refine ⟨K, ?_⟩
  unfold plaitinglaw18_ShellQuotes.f plaitinglaw18_known.f
  rw [Option.bind_some, if_pos rfl]
  exact hK K (Nat.le_refl _)
end Go.Proofs.YtoamchhmehpgoaaGreatDoor.PSJ
