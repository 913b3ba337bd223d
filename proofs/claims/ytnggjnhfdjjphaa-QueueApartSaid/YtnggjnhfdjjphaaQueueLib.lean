/- A queue's calls, as a list's: no program in sight. -/
import Derived.Test.YtnggjnhfdjjphaaBytesQ
import Derived.Test.YtnggjnhfdjjphaaPQx2
import Derived.Test.YtnggjnhfdjjphaaPQx3
import Derived.Test.YtnggjnhfdjjphaaPQx4
import Derived.Test.YtnggjnhfdjjphaaPQx7
namespace Go.Proofs.Ytnggjnhfdjjphaa.Pure
open Go.RowKit Go.Proofs.Ytnggjnhfdjjphaa.PQ Go.Proofs.YtnggjnhfdjjphaaW.PrintWords Go.Proofs.YtnggjnhfdjjphaaW.PrintLast Go.Proofs.YtnggjnhfdjjphaaW.PrintMore
/-- Four places and a number, as a queue that holds L. -/
def Q (f0 f1 f2 f3 n : Int) (L : List Int) : Prop := n = (L.length : Int) ∧ L.length ≤ 4 ∧ L = [f0, f1, f2, f3].take L.length
theorem Q_nil (f0 f1 f2 f3 : Int) : Q f0 f1 f2 f3 0 [] := ⟨rfl, by decide, rfl⟩
theorem send_ok {f0 f1 f2 f3 n : Int} {L : List Int} (h : Q f0 f1 f2 f3 n L) (hl : L.length < 4) (v : Int) (h0 : 0 ≤ v) (h1 : v ≤ 255) :
    ∃ g0 g1 g2 g3 m, queue_Queue_Send.f f0 f1 f2 f3 n v = some (0, g0, g1, g2, g3, m) ∧ Q g0 g1 g2 g3 m (L ++ [v]) := by
  obtain ⟨rfl, _, e⟩ := h
  unfold queue_Queue_Send.f
  rw [if_neg (by omega)]
  match L, hl, e with
  | [], _, _ => exact ⟨v, f1, f2, f3, 1, by simp, rfl, by simp, rfl⟩
  | [a], _, e =>
    simp at e
    subst e
    exact ⟨_, v, f2, f3, 2, by simp, rfl, by simp, rfl⟩
  | [a, b], _, e =>
    simp at e
    obtain ⟨rfl, rfl⟩ := e
    exact ⟨_, _, v, f3, 3, by simp, rfl, by simp, rfl⟩
  | [a, b, c], _, e =>
    simp at e
    obtain ⟨rfl, rfl, rfl⟩ := e
    exact ⟨_, _, _, v, 4, by simp, rfl, by simp, rfl⟩
theorem send_full {f0 f1 f2 f3 n : Int} {L : List Int} (h : Q f0 f1 f2 f3 n L) (hl : L.length = 4) (v : Int) (h0 : 0 ≤ v) (h1 : v ≤ 255) :
    queue_Queue_Send.f f0 f1 f2 f3 n v = some (8, f0, f1, f2, f3, n) := by
  obtain ⟨rfl, _, _⟩ := h
  unfold queue_Queue_Send.f
  rw [if_neg (by omega), if_pos (by omega)]
theorem send_bad (f0 f1 f2 f3 n v : Int) (h : v < 0 ∨ 255 < v) : queue_Queue_Send.f f0 f1 f2 f3 n v = some (1, f0, f1, f2, f3, n) := by
  unfold queue_Queue_Send.f
  rw [if_pos h]
theorem next_ok {f0 f1 f2 f3 n x : Int} {L : List Int} (h : Q f0 f1 f2 f3 n (x :: L)) :
    ∃ g0 g1 g2 g3 m, queue_Queue_Next.f f0 f1 f2 f3 n = some (2, x, g0, g1, g2, g3, m) ∧ Q g0 g1 g2 g3 m L := by
  obtain ⟨rfl, hl, e⟩ := h
  unfold queue_Queue_Next.f
  match L, hl, e with
  | [], _, e =>
    simp at e
    subst e
    exact ⟨_, f1, f2, f3, 0, by simp; rfl, Q_nil _ _ _ _⟩
  | [a], _, e =>
    simp at e
    obtain ⟨rfl, rfl⟩ := e
    exact ⟨_, _, f2, f3, 1, by simp; rfl, rfl, by simp, rfl⟩
  | [a, b], _, e =>
    simp at e
    obtain ⟨rfl, rfl, rfl⟩ := e
    exact ⟨_, _, _, f3, 2, by simp; rfl, rfl, by simp, rfl⟩
  | [a, b, c], _, e =>
    simp at e
    obtain ⟨rfl, rfl, rfl, rfl⟩ := e
    exact ⟨_, _, _, _, 3, by simp; rfl, rfl, by simp, rfl⟩
theorem next_nil {f0 f1 f2 f3 n : Int} (h : Q f0 f1 f2 f3 n []) : queue_Queue_Next.f f0 f1 f2 f3 n = some (1, 0, f0, f1, f2, f3, 0) := by
  obtain ⟨rfl, _, _⟩ := h
  unfold queue_Queue_Next.f
  simp
theorem within14_nat (a : Int) (N : Nat) (h : 0 < N) (hb : N ≤ 4611686018427387904) : ∃ i : Nat, plaitinglaw14_within.f a (N : Int) = some (i : Int) ∧ i < N ∧ a % (N : Int) = i := by
  have p1 := Int.emod_nonneg a (show (N : Int) ≠ 0 by omega)
  have p2 := Int.emod_lt_of_pos a (show (0 : Int) < (N : Int) by omega)
  refine ⟨(a % (N : Int)).toNat, ?_, by rw [← Int.ofNat_lt, Int.toNat_of_nonneg p1]; exact p2, (Int.toNat_of_nonneg p1).symm⟩
  rw [Int.toNat_of_nonneg p1]
  exact within_eq a N (by omega) (by omega)
theorem within256 (a : Int) : plaitinglaw14_within.f a 256 = some (a % 256) := within_eq a 256 (by decide) (by decide)
theorem w64_succ' (n : Nat) (h : n ≤ 4611686018427387904) : wrap64 ((n : Int) + 1) = ((n + 1 : Nat) : Int) := by
  rw [w64 _ (by omega) (by omega)]
  omega
theorem w64_sub' (n m : Nat) (h : m ≤ n) (hn : n ≤ 4611686018427387904) : wrap64 ((n : Int) - (m : Int)) = ((n - m : Nat) : Int) := by
  rw [w64 _ (by omega) (by omega)]
  omega
theorem mn_nat (a b : Nat) : mn (a : Int) (b : Int) = ((min a b : Nat) : Int) := by
  unfold mn
  split <;> omega
theorem rd_at (ns : List Int) (i : Nat) (h : i < ns.length) : rd ns (i : Int) = ns[i] := by
  unfold rd
  simp [List.getD_eq_getElem?_getD, List.getElem?_eq_getElem h]
theorem known14 : plaitinglaw14_known.f = some true := by
  unfold plaitinglaw14_known.f
  rfl
/-- What is sent of numbers. -/
def vals (ns : List Int) : List Int := ns.map fun x => x % 256
theorem vals_len (ns : List Int) : (vals ns).length = ns.length := by simp [vals]
theorem vals_at (ns : List Int) (i : Nat) (h : i < ns.length) : (vals ns)[i]'(by rw [vals_len]; exact h) = ns[i] % 256 := by simp [vals]
theorem mod_byte (x : Int) : 0 ≤ x % 256 ∧ x % 256 ≤ 255 := by omega
theorem not_other (x : Int) : ¬ ((!((2 : Int) == 2) || !(x == x)) = true) := by simp
end Go.Proofs.Ytnggjnhfdjjphaa.Pure
