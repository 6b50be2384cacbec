/- Proved: of every set, and all numbers, what is in it, how many it has, with a node, and below a node, and whether it is enough, are the reference's. Conditions: none. -/
import Derived.Test.YtpflopenjbealaaCountVoteSets
namespace Go.Proofs.Ytpflopenjbealaa.Pure
open Go.RowKit Go.Proofs.Ytpflopenjbealaa.PVoteSets Go.Proofs.YtpflopenjbealaaW.PrintWords Go.Proofs.YtpflopenjbealaaW.PrintLast Go.Proofs.YtpflopenjbealaaW.PrintMore Go.Proofs.YtpflopenjbealaaBits Go.Proofs.Ytpflopenjbealaa.SetsVoteSets

theorem refMaj (n : Int) (h : n ≤ 9223372036854775807) : annalistref16_Majority.f n = some ((max n 0) / 2 + 1) := by
  unfold annalistref16_Majority.f
  by_cases h1 : n < 1
  · rw [if_pos h1]
    exact congrArg some (by omega)
  · rw [if_neg h1, Int.tdiv_eq_ediv_of_nonneg (by omega)]
    have e1 : wrap64 (n / 2) = n / 2 := by unfold wrap64; omega
    rw [e1]
    have e2 : wrap64 (n / 2 + 1) = n / 2 + 1 := by unfold wrap64; omega
    rw [e2]
    exact congrArg some (by omega)

theorem sets_loop (s : Nat) (a1 a2 : Int) (hs : s < 2 ^ 64) (h2 : a2 ≤ 9223372036854775807) (d : Nat) : ∀ (k i : Nat), i + d = 63 → d + 200 < k →
    annalistlaw16_VoteSets.l0 k a1 a2 (bitsOf s) s (put s a1 : Nat) (below s a2 : Nat) (i : Int) = some true := by
  induction d with
  | zero =>
    intro k i hi hk
    obtain ⟨k, rfl⟩ : ∃ m, k = m + 1 := ⟨k - 1, by omega⟩
    obtain rfl : i = 63 := by omega
    simp only [annalistlaw16_VoteSets.l0]
    rw [if_neg (by decide), maj_f a2 h2, Option.bind_some, refMaj a2 h2, Option.bind_some, if_pos rfl, enough_f s a2 hs h2, Option.bind_some, count_f s k a2 (by omega), Option.bind_some, Option.bind_some, beq_self_eq_true]
  | succ d ih =>
    intro k i hi hk
    obtain ⟨k, rfl⟩ : ∃ m, k = m + 1 := ⟨k - 1, by omega⟩
    have hw : wrap64 ((i : Int) + 1) = ((i + 1 : Nat) : Int) := by unfold wrap64; omega
    have hb := bitsOf_get s (i : Int) (by omega) (by omega)
    rw [Int.toNat_natCast] at hb
    have hr := ih k (i + 1) (by omega) (by omega)
    simp only [annalistlaw16_VoteSets.l0]
    rw [if_pos (by omega), has_nat _ i (put_lt s a1 hs) (by omega), Option.bind_some, if_pos (by omega), if_pos (by rw [bitsOf_len]; omega), has_nat _ i (below_lt s a2 hs) (by omega), Option.bind_some, Option.bind_some, hb, put_bit s i a1 (by omega), below_bit s i a2 (by omega), hw]
    cases s.testBit i
    · rw [if_neg Bool.false_ne_true, Bool.false_or, Bool.false_and]
      rw [if_neg (by simp), if_neg (by simp)]
      exact hr
    · rw [if_pos rfl, Bool.true_or, Bool.true_and]
      rw [if_neg (by simp), if_neg (by simp)]
      exact hr

theorem sets_j1 (s : Nat) (a1 a2 : Int) (hs : s < 2 ^ 64) (h2 : a2 ≤ 9223372036854775807) (k : Nat) (hk : 300 < k) : annalistlaw16_VoteSets.j1 k a1 a2 (bitsOf s) s false = some true := by
  obtain ⟨k, rfl⟩ : ∃ m, k = m + 1 := ⟨k - 1, by omega⟩
  simp only [annalistlaw16_VoteSets.j1]
  rw [if_neg Bool.false_ne_true, with_f s a1 hs, Option.bind_some, within_f s a2 hs, Option.bind_some]
  exact sets_loop s a1 a2 hs h2 63 k 0 (by omega) (by omega)

theorem sets_j0 (s : Nat) (a1 a2 : Int) (hs : s < 2 ^ 64) (h2 : a2 ≤ 9223372036854775807) (k : Nat) (hk : 301 < k) (x : Bool) (hx : x = true ↔ (0 ≤ a1 ∧ a1 < 63)) :
    annalistlaw16_VoteSets.j0 k a1 a2 (bitsOf s) s x = some true := by
  obtain ⟨k, rfl⟩ : ∃ m, k = m + 1 := ⟨k - 1, by omega⟩
  have hj := sets_j1 s a1 a2 hs h2 k (by omega)
  have hc := count_f s k 63 (by omega)
  rw [lives63] at hc
  simp only [annalistlaw16_VoteSets.j0]
  rw [awake_f, Option.bind_some, if_pos rfl, has_f s a1 hs, Option.bind_some, len_f s hs, Option.bind_some, hc, Option.bind_some]
  cases x with
  | true =>
    have h := hx.1 rfl
    have e : mx (mn a1 62) 0 = a1 := by unfold mx mn; (repeat' split) <;> omega
    rw [if_pos rfl, e, if_pos h.1, if_pos (by rw [bitsOf_len]; omega), bitsOf_get s a1 h.1 h.2, decide_eq_true (show inn a1 from ⟨h.1, by omega⟩), Bool.true_and, if_neg (by simp), bne_self_eq_false]
    exact hj
  | false =>
    have h : ¬ inn a1 := fun h => by have := hx.2 ⟨h.1, by have := h.2; omega⟩; exact absurd this (by decide)
    rw [if_neg Bool.false_ne_true, decide_eq_false h, Bool.false_and, if_neg (by decide), bne_self_eq_false]
    exact hj

theorem VoteSets : annalistlaw16_VoteSets.Pure := by
  intro a0 a1 a2 h0 h1 h2
  have b0 : 0 ≤ a0 ∧ a0 ≤ 18446744073709551615 := by simpa [Lit.wf, IntKind.min, IntKind.max, IntKind.signed, IntKind.bits] using h0
  have b2 : -9223372036854775808 ≤ a2 ∧ a2 ≤ 9223372036854775807 := by simpa [Lit.wf, IntKind.min, IntKind.max, IntKind.signed, IntKind.bits] using h2
  obtain ⟨s, rfl⟩ := Int.eq_ofNat_of_zero_le b0.1
  have hs : s < 2 ^ 64 := by omega
  refine ⟨400, ?_⟩
  unfold annalistlaw16_VoteSets.f
  rw [nodes_f s 400 hs (by decide), Option.bind_some]
  by_cases h : a1 ≥ 0
  · rw [if_pos h]
    exact sets_j0 s a1 a2 hs b2.2 400 (by decide) _ (by simp only [decide_eq_true_eq]; omega)
  · rw [if_neg h]
    exact sets_j0 s a1 a2 hs b2.2 400 (by decide) _ ⟨fun hh => absurd hh (by decide), fun hh => absurd hh.1 (by omega)⟩

end Go.Proofs.Ytpflopenjbealaa.Pure
