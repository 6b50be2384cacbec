/- The reference's lists of nodes, over one law's printed functions. -/
import Derived.Test.YtpflopenjbealaaDoorWithinVoteShares
namespace Go.Proofs.YtpflopenjbealaaDoor.SetsVoteShares
open Go.RowKit Go.Proofs.YtpflopenjbealaaDoor.PVoteShares Go.Proofs.YtpflopenjbealaaDoorW.PrintWords Go.Proofs.YtpflopenjbealaaDoorW.PrintLast Go.Proofs.YtpflopenjbealaaDoorW.PrintMore Go.Proofs.YtpflopenjbealaaDoorBits

/-- the first n bits, the rest false -/
def row (s n : Nat) : List Bool := (List.range 63).map fun j => decide (j < n) && s.testBit j
theorem row_len (s n : Nat) : (row s n).length = 63 := by simp [row]
theorem row_get (s n j : Nat) (h : j < (row s n).length) : (row s n)[j] = (decide (j < n) && s.testBit j) := by simp [row]
theorem row_zero (s : Nat) : row s 0 = List.replicate 63 false := by
  apply List.ext_getElem
  · rw [row_len, List.length_replicate]
  · intro j h1 h2; rw [row_get, List.getElem_replicate]; simp
theorem row_set (s n : Nat) : (row s n).set n (s.testBit n) = row s (n + 1) := by
  apply List.ext_getElem
  · rw [List.length_set, row_len, row_len]
  · intro j h1 h2
    rw [List.getElem_set, row_get s (n + 1)]
    by_cases e : n = j
    · subst e; rw [if_pos rfl, decide_eq_true (Nat.lt_succ_self n), Bool.true_and]
    · rw [if_neg e, row_get s n]
      by_cases h : j < n
      · rw [decide_eq_true h, decide_eq_true (by omega)]
      · rw [decide_eq_false h, decide_eq_false (by omega)]
def bitsOf (s : Nat) : List Bool := row s 63
theorem bitsOf_len (s : Nat) : (bitsOf s).length = 63 := row_len s 63
theorem bitsOf_get (s : Nat) (i : Int) (h0 : 0 ≤ i) (h1 : i < 63) : rdOf false (bitsOf s) i = s.testBit i.toNat := by
  unfold rdOf bitsOf
  have h : i.toNat < (row s 63).length := by rw [row_len]; omega
  rw [List.getD_eq_getElem?_getD, List.getElem?_eq_getElem h, Option.getD_some, row_get s 63 i.toNat h, decide_eq_true (by omega), Bool.true_and]

theorem odd_bit (s n : Nat) : (Int.tmod ((s / 2 ^ n : Nat) : Int) 2 == 1) = s.testBit n := by
  rw [Int.tmod_eq_emod_of_nonneg (Int.natCast_nonneg _), Nat.testBit_eq_decide_div_mod_eq]
  generalize s / 2 ^ n = z
  rw [Bool.eq_iff_iff]; simp only [beq_iff_eq, decide_eq_true_eq]; omega
theorem half (s n : Nat) (hs : s < 2 ^ 64) : IntKind.u64.wrap (Int.tdiv ((s / 2 ^ n : Nat) : Int) 2) = ((s / 2 ^ (n + 1) : Nat) : Int) := by
  rw [Int.tdiv_eq_ediv_of_nonneg (Int.natCast_nonneg _), Nat.pow_succ, ← Nat.div_div_eq_div_mul]
  have h : s / 2 ^ n < 2 ^ 64 := Nat.lt_of_le_of_lt (Nat.div_le_self _ _) hs
  generalize s / 2 ^ n = z at *
  rw [u64_in _ (by omega) (by omega)]; omega

theorem nodes_loop (s : Nat) (hs : s < 2 ^ 64) (d : Nat) : ∀ (k n : Nat), n + d = 63 → d < k →
    annalistref16_Nodes.l0 k ((s / 2 ^ n : Nat) : Int) (row s n) (n : Int) = some (bitsOf s) := by
  induction d with
  | zero =>
    intro k n hn hk
    obtain ⟨k, rfl⟩ : ∃ m, k = m + 1 := ⟨k - 1, by omega⟩
    obtain rfl : n = 63 := by omega
    simp only [annalistref16_Nodes.l0]; rw [if_neg (by decide)]; rfl
  | succ d ih =>
    intro k n hn hk
    obtain ⟨k, rfl⟩ : ∃ m, k = m + 1 := ⟨k - 1, by omega⟩
    simp only [annalistref16_Nodes.l0]
    have hw : wrap64 ((n : Int) + 1) = ((n + 1 : Nat) : Int) := by unfold wrap64; omega
    rw [if_pos (by omega), if_pos (by omega), if_pos (by rw [row_len]; omega), odd_bit, half s n hs, Int.toNat_natCast, row_set, hw]
    exact ih k (n + 1) (by omega) (by omega)

theorem nodes_f (s k : Nat) (hs : s < 2 ^ 64) (hk : 63 < k) : annalistref16_Nodes.f k s = some (bitsOf s) := by
  unfold annalistref16_Nodes.f
  have h := nodes_loop s hs 63 k 0 (by omega) hk
  rw [row_zero, Nat.pow_zero, Nat.div_one] at h
  rw [if_pos (by decide)]
  exact h

theorem put_bit (s i : Nat) (a : Int) (hi : i ≤ 62) : (put s a).testBit i = (s.testBit i || ((i : Int) == a)) := by
  unfold put
  by_cases h : inn a
  · have h1 := h.1; have h2 := h.2
    rw [if_pos h, or_bit]
    congr 1
    rw [Bool.eq_iff_iff]; simp only [beq_iff_eq, decide_eq_true_eq]; omega
  · rw [if_neg h]
    have e : ((i : Int) == a) = false := by rw [beq_eq_false_iff_ne]; intro e; exact h ⟨by omega, by omega⟩
    rw [e, Bool.or_false]
theorem below_bit (s i : Nat) (n : Int) (hi : i ≤ 62) : (below s n).testBit i = (s.testBit i && decide ((i : Int) < n)) := by
  unfold below
  by_cases h0 : n < 1
  · rw [if_pos h0, decide_eq_false (by omega), Nat.zero_testBit, Bool.and_false]
  · rw [if_neg h0]
    by_cases h1 : n > 62
    · rw [if_pos h1, decide_eq_true (by omega), Bool.and_true]
    · rw [if_neg h1, Nat.testBit_mod_two_pow, Bool.and_comm]
      congr 1
      rw [Bool.eq_iff_iff]; simp only [decide_eq_true_eq]; omega
theorem has_nat (s i : Nat) (hs : s < 2 ^ 64) (hi : i ≤ 62) : vote_Set_Has.f s (i : Int) = some (s.testBit i) := by
  rw [has_f s i hs, decide_eq_true (show inn (i : Int) from ⟨by omega, by omega⟩), Bool.true_and, Int.toNat_natCast]

end Go.Proofs.YtpflopenjbealaaDoor.SetsVoteShares
