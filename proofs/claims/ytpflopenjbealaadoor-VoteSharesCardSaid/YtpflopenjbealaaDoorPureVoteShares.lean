/- Proved: of all two sets the least node in both is told; two that are enough of n nodes (1 to 63) share one below n. Conditions: none. -/
import Derived.Test.YtpflopenjbealaaDoorNodesVoteShares
namespace Go.Proofs.YtpflopenjbealaaDoor.Pure
open Go.RowKit Go.Proofs.YtpflopenjbealaaDoor.PVoteShares Go.Proofs.YtpflopenjbealaaDoorW.PrintWords Go.Proofs.YtpflopenjbealaaDoorW.PrintLast Go.Proofs.YtpflopenjbealaaDoorBits Go.Proofs.YtpflopenjbealaaDoor.SetsVoteShares

/-- node j is in both -/
def both (s c j : Nat) : Bool := s.testBit j && c.testBit j
/-- what both have, as a number -/
def common (s c : Nat) : Nat := (s &&& c) % 2 ^ 63
theorem common_bit (s c j : Nat) : (common s c).testBit j = (decide (j < 63) && both s c j) := by
  unfold common both
  rw [Nat.testBit_mod_two_pow, Nat.testBit_and]
theorem share_nat (s c : Nat) (hs : s < 2 ^ 64) (hc : c < 2 ^ 64) : shareX s c = ((common s c : Nat) : Int) := by
  unfold shareX common
  rw [and_u64 s c hs hc, andNot_top _ (Nat.and_lt_two_pow _ hc)]
/-- the reference's loop, d nodes looked at, from 62 down -/
def st (s c : Nat) : Nat → Nat × Bool
  | 0 => (0, false)
  | d + 1 => if both s c (62 - d) = true then (62 - d, true) else st s c d
def Good (s c d : Nat) (r : Nat × Bool) : Prop :=
  (r.2 = true ∧ 63 - d ≤ r.1 ∧ r.1 < 63 ∧ both s c r.1 = true ∧ ∀ j, 63 - d ≤ j → j < r.1 → both s c j = false) ∨ (r.2 = false ∧ r.1 = 0 ∧ ∀ j, 63 - d ≤ j → j < 63 → both s c j = false)
theorem st_good (s c d : Nat) (h : d ≤ 63) : Good s c d (st s c d) := by
  induction d with
  | zero => exact .inr ⟨rfl, rfl, fun j h1 h2 => absurd h2 (by omega)⟩
  | succ d ih =>
    have ih := ih (by omega)
    by_cases e : both s c (62 - d) = true
    · rw [st, if_pos e]
      exact .inl ⟨rfl, by show 63 - (d + 1) ≤ 62 - d; omega, by show 62 - d < 63; omega, e, fun j h1 h2 => absurd (show j < 62 - d from h2) (by omega)⟩
    · rw [st, if_neg e]
      have e' := Bool.eq_false_iff.2 e
      have step : ∀ j, 63 - (d + 1) ≤ j → j = 62 - d ∨ 63 - d ≤ j := fun j hj => by omega
      rcases ih with ⟨a1, a2, a3, a4, a5⟩ | ⟨a1, a2, a3⟩
      · exact .inl ⟨a1, by omega, a3, a4, fun j h1 h2 => (step j h1).elim (fun q => q ▸ e') (fun q => a5 j q h2)⟩
      · exact .inr ⟨a1, a2, fun j h1 h2 => (step j h1).elim (fun q => q ▸ e') (fun q => a3 j q h2)⟩
theorem least (x : Nat) (h0 : x ≠ 0) (h : x < 2 ^ 64) : x.testBit (Lib.ctz 64 x) = true ∧ ∀ j, j < Lib.ctz 64 x → x.testBit j = false := by
  have e : Lib.ctz 64 x = Lib.ctzFrom 64 x := by unfold Lib.ctz; rw [if_neg h0]
  rw [e]
  obtain ⟨m, hm, _⟩ := Lib.ctzFrom_spec 64 x (Nat.pos_of_ne_zero h0) h
  generalize Lib.ctzFrom 64 x = k at hm
  subst hm
  constructor
  · rw [Nat.testBit_two_pow_mul, decide_eq_true (Nat.le_refl k), Nat.sub_self, Nat.testBit_zero, Bool.true_and, decide_eq_true_eq]; omega
  · intro j hj
    rw [Nat.testBit_two_pow_mul, decide_eq_false (show ¬ j ≥ k by omega), Bool.false_and]
theorem common_lt (s c : Nat) : common s c < 2 ^ 63 := Nat.mod_lt _ (by decide)
theorem st_share (s c : Nat) : st s c 63 = (if common s c = 0 then (0, false) else (Lib.ctz 64 (common s c), true)) := by
  have hg := st_good s c 63 (Nat.le_refl _)
  by_cases h0 : common s c = 0
  · rw [if_pos h0]
    rcases hg with ⟨_, _, a3, a4, _⟩ | ⟨a1, a2, _⟩
    · have := common_bit s c (st s c 63).1
      rw [h0, Nat.zero_testBit, decide_eq_true a3, a4] at this
      exact absurd this (by decide)
    · exact Prod.ext a2 a1
  · rw [if_neg h0]
    obtain ⟨l1, l2⟩ := least (common s c) h0 (Nat.lt_trans (common_lt s c) (by decide))
    rw [common_bit, Bool.and_eq_true, decide_eq_true_eq] at l1
    generalize Lib.ctz 64 (common s c) = k at l1 l2
    rcases hg with ⟨a1, _, a3, a4, a5⟩ | ⟨_, _, a3⟩
    · refine Prod.ext ?_ a1
      show (st s c 63).1 = k
      rcases Nat.lt_trichotomy (st s c 63).1 k with q | q | q
      · have := l2 _ q
        rw [common_bit, decide_eq_true a3, a4] at this
        exact absurd this (by decide)
      · exact q
      · have := a5 k (by omega) q
        rw [l1.2] at this
        exact absurd this (by decide)
    · have := a3 k (by omega) l1.1
      rw [l1.2] at this
      exact absurd this (by decide)
theorem cnt_apart (s c n : Nat) (h : ∀ j, j < n → both s c j = false) : cnt s n + cnt c n ≤ n := by
  induction n with
  | zero => simp [cnt]
  | succ n ih =>
    have h1 := ih fun j hj => h j (by omega)
    have h2 := h n (by omega)
    unfold both at h2
    rw [cnt, cnt]
    cases hs : s.testBit n <;> cases hc : c.testBit n <;> rw [hs, hc] at h2 <;> simp only [Bool.toNat_false, Bool.toNat_true] <;> first | omega | exact absurd h2 (by decide)
theorem livesk (s k : Nat) (hk : k ≤ 63) : lives s (k : Int) = cnt s k := by
  have e : max (k : Int) 0 = k := by omega
  unfold lives; rw [e, Int.toNat_natCast, Nat.min_eq_left hk]
/-- two that are enough share a node below n -/
theorem enough_share (s c n : Nat) (hn : n ≤ 63) (h1 : ((cnt s n : Nat) : Int) ≥ (n : Int) / 2 + 1) (h2 : ((cnt c n : Nat) : Int) ≥ (n : Int) / 2 + 1) : common s c ≠ 0 ∧ Lib.ctz 64 (common s c) < n := by
  have hex : ∃ j, j < n ∧ both s c j = true := by
    refine Classical.byContradiction fun hc => ?_
    have := cnt_apart s c n fun j hj => Bool.eq_false_iff.2 fun hb => hc ⟨j, hj, hb⟩
    omega
  obtain ⟨j, hj, hb⟩ := hex
  have hbit : (common s c).testBit j = true := by rw [common_bit, hb, decide_eq_true (show j < 63 by omega)]; rfl
  have h0 : common s c ≠ 0 := fun e => by rw [e, Nat.zero_testBit] at hbit; exact absurd hbit (by decide)
  refine ⟨h0, ?_⟩
  have l2 := (least (common s c) h0 (Nat.lt_trans (common_lt s c) (by decide))).2
  rcases Nat.lt_or_ge j (Lib.ctz 64 (common s c)) with q | q
  · rw [l2 j q] at hbit; exact absurd hbit (by decide)
  · omega
theorem j1_f (k s c : Nat) (n : Int) (i : Int) (ok : Bool) (hs : s < 2 ^ 64) (hc : c < 2 ^ 64) (hn : n ≤ 9223372036854775807)
    (hi : i = (((if common s c = 0 then 0 else Lib.ctz 64 (common s c) : Nat)) : Int)) (ho : ok = decide (common s c ≠ 0)) : annalistlaw16_VoteShares.j1 (k + 1) s c n i ok false = some true := by
  rw [annalistlaw16_VoteShares.j1, if_neg Bool.false_ne_true]
  by_cases c1 : n < 1
  · rw [if_pos c1]
  · rw [if_neg c1]
    by_cases c2 : n > 63
    · rw [if_pos c2]
    · rw [if_neg c2]
      obtain ⟨m, rfl⟩ := Int.eq_ofNat_of_zero_le (show 0 ≤ n by omega)
      have hm : m ≤ 63 := by omega
      have e : max (m : Int) 0 = m := by omega
      rw [enough_f s m hs hn, Option.bind_some, livesk s m hm, e]
      by_cases e1 : ((cnt s m : Nat) : Int) ≥ (m : Int) / 2 + 1
      · rw [decide_eq_true e1, if_pos rfl, enough_f c m hc hn, Option.bind_some, livesk c m hm, e]
        by_cases e2 : ((cnt c m : Nat) : Int) ≥ (m : Int) / 2 + 1
        · obtain ⟨h0, hl⟩ := enough_share s c m hm e1 e2
          rw [decide_eq_true e2, if_pos rfl, ho, decide_eq_true h0, if_pos rfl, hi, if_neg h0, decide_eq_true (by omega)]
        · rw [decide_eq_false e2, if_neg Bool.false_ne_true]
      · rw [decide_eq_false e1, if_neg Bool.false_ne_true]
theorem loop_f (s c : Nat) (n i : Int) (ok : Bool) (hs : s < 2 ^ 64) (hc : c < 2 ^ 64) (hn : n ≤ 9223372036854775807)
    (hi : i = (((if common s c = 0 then 0 else Lib.ctz 64 (common s c) : Nat)) : Int)) (ho : ok = decide (common s c ≠ 0)) (r : Nat) :
    ∀ d, d + r = 63 → annalistlaw16_VoteShares.l0 (r + 2) s c n (bitsOf s) (bitsOf c) i ok (((st s c d).1 : Nat) : Int) (st s c d).2 ((r : Int) - 1) = some true := by
  induction r with
  | zero =>
    intro d hd
    obtain rfl : d = 63 := by omega
    have e1 : i = (((st s c 63).1 : Nat) : Int) := by rw [hi, st_share]; split <;> rfl
    have e2 : (ok != (st s c 63).2) = false := by
      rw [ho, st_share]
      by_cases q : common s c = 0
      · rw [if_pos q, decide_eq_false (fun hh => hh q)]; rfl
      · rw [if_neg q, decide_eq_true q]; rfl
    rw [annalistlaw16_VoteShares.l0, if_neg (by omega), if_pos e1, e2]
    exact j1_f 0 s c n i ok hs hc hn hi ho
  | succ r ih =>
    intro d hd
    have hx : (((r + 1 : Nat) : Int) - 1) = (r : Int) := by omega
    have hw : wrap64 ((r : Int) - 1) = (r : Int) - 1 := by unfold wrap64; omega
    rw [annalistlaw16_VoteShares.l0, hx, hw, if_pos (by omega), if_pos (by omega), if_pos (by rw [bitsOf_len]; omega), bitsOf_get s r (by omega) (by omega), bitsOf_len c, bitsOf_get c r (by omega) (by omega), Int.toNat_natCast]
    have hr : 62 - d = r := by omega
    have hst : st s c (d + 1) = if both s c r = true then (r, true) else st s c d := by rw [st, hr]
    have key := ih (d + 1) (by omega)
    rw [hst] at key
    unfold both at key
    cases hb : s.testBit r
    · rw [if_neg Bool.false_ne_true]
      rw [hb, Bool.false_and, if_neg Bool.false_ne_true] at key
      exact key
    · rw [if_pos rfl, if_pos (by omega)]
      rw [hb, Bool.true_and] at key
      cases hb2 : c.testBit r
      · rw [if_neg Bool.false_ne_true]
        rw [hb2, if_neg Bool.false_ne_true] at key
        exact key
      · rw [if_pos rfl]
        rw [hb2, if_pos rfl] at key
        exact key
theorem VoteShares : annalistlaw16_VoteShares.Pure := by
  intro a0 a1 a2 h0 h1 h2
  have b0 : 0 ≤ a0 ∧ a0 ≤ 18446744073709551615 := by simpa [Lit.wf, IntKind.min, IntKind.max, IntKind.signed, IntKind.bits] using h0
  have b1 : 0 ≤ a1 ∧ a1 ≤ 18446744073709551615 := by simpa [Lit.wf, IntKind.min, IntKind.max, IntKind.signed, IntKind.bits] using h1
  have b2 : -9223372036854775808 ≤ a2 ∧ a2 ≤ 9223372036854775807 := by simpa [Lit.wf, IntKind.min, IntKind.max, IntKind.signed, IntKind.bits] using h2
  obtain ⟨s, rfl⟩ := Int.eq_ofNat_of_zero_le b0.1
  obtain ⟨c, rfl⟩ := Int.eq_ofNat_of_zero_le b1.1
  have hs : s < 2 ^ 64 := by omega
  have hc : c < 2 ^ 64 := by omega
  refine ⟨65, ?_⟩
  unfold annalistlaw16_VoteShares.f
  rw [awake_f, Option.bind_some, if_pos rfl, nodes_f s 65 hs (by omega), Option.bind_some, nodes_f c 65 hc (by omega), Option.bind_some]
  unfold vote_Share.f
  rw [Option.bind_some, share_nat s c hs hc, Int.toNat_natCast]
  by_cases q : common s c = 0
  · rw [if_pos (show ((common s c : Nat) : Int) = 0 by omega)]
    exact loop_f s c a2 0 false hs hc b2.2 (by rw [if_pos q]; rfl) (by rw [decide_eq_false (fun hh => hh q)]) 63 0 rfl
  · rw [if_neg (show ¬ ((common s c : Nat) : Int) = 0 by omega)]
    exact loop_f s c a2 _ true hs hc b2.2 (by rw [if_neg q]) (by rw [decide_eq_true q]) 63 0 rfl
end Go.Proofs.YtpflopenjbealaaDoor.Pure
