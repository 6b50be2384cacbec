/- Proved: of two sets that share nothing at most one is enough of n nodes (1 to 63), and together they have n nodes below n. Conditions: none. -/
import Derived.Test.YtpflopenjbealaaWithinVoteApart
namespace Go.Proofs.Ytpflopenjbealaa.Pure
open Go.RowKit Go.Proofs.Ytpflopenjbealaa.PVoteApart Go.Proofs.YtpflopenjbealaaW.PrintWords Go.Proofs.YtpflopenjbealaaW.PrintLast Go.Proofs.YtpflopenjbealaaBits Go.Proofs.Ytpflopenjbealaa.SetsVoteApart

theorem maxk (k : Nat) : max (k : Int) 0 = k := by omega
theorem wraps2 (a b k : Nat) (h : a + b = k) (hk : k ≤ 63) : wrap64 ((a : Int) + (b : Int)) = (k : Int) := by unfold wrap64; omega
theorem livesk (s k : Nat) (hk : k ≤ 63) : lives s (k : Int) = cnt s k := by
  unfold lives; rw [maxk, Int.toNat_natCast, Nat.min_eq_left hk]
theorem notboth (a b k : Nat) (h : a + b = k) (h1 : (a : Int) ≥ (k : Int) / 2 + 1) (h2 : (b : Int) ≥ (k : Int) / 2 + 1) : False := by omega

theorem tail (s c k : Nat) (hs : s < 2 ^ 64) (hc : c < 2 ^ 64) (hk : k ≤ 63) (hsum : cnt s k + cnt c k = k) :
    ((vote_Set_Within.f s k).bind fun t111 => ((vote_Set_Len.f t111).bind fun t112 => ((vote_Set_Within.f c k).bind fun t113 => ((vote_Set_Len.f t113).bind fun t114 => (some ((wrap64 (t112 + t114)) == (k : Int))))))) = some true := by
  rw [within_f s k hs, Option.bind_some, len_f _ (below_lt s k hs), Option.bind_some, within_f c k hc, Option.bind_some, len_f _ (below_lt c k hc), Option.bind_some]
  rw [cnt_below63, cnt_below63, livesk s k hk, livesk c k hk, wraps2 _ _ k hsum hk, beq_self_eq_true]

theorem core (s c k : Nat) (hs : s < 2 ^ 64) (hc : c < 2 ^ 64) (hk : k ≤ 63) (hsum : cnt s k + cnt c k = k) :
    ((vote_Enough.f s k).bind fun t109 => (if t109 = true then ((vote_Enough.f c k).bind fun t110 => (if t110 = true then (some false) else ((vote_Set_Within.f s k).bind fun t111 => ((vote_Set_Len.f t111).bind fun t112 => ((vote_Set_Within.f c k).bind fun t113 => ((vote_Set_Len.f t113).bind fun t114 => (some ((wrap64 (t112 + t114)) == (k : Int))))))))) else ((vote_Set_Within.f s k).bind fun t115 => ((vote_Set_Len.f t115).bind fun t116 => ((vote_Set_Within.f c k).bind fun t117 => ((vote_Set_Len.f t117).bind fun t118 => (some ((wrap64 (t116 + t118)) == (k : Int))))))))) = some true := by
  have hb : (k : Int) ≤ 9223372036854775807 := by omega
  rw [enough_f s k hs hb, Option.bind_some, enough_f c k hc hb, livesk s k hk, livesk c k hk, maxk]
  have ht := tail s c k hs hc hk hsum
  by_cases e : ((cnt s k : Nat) : Int) ≥ (k : Int) / 2 + 1
  · rw [decide_eq_true e, if_pos rfl, Option.bind_some]
    by_cases e2 : ((cnt c k : Nat) : Int) ≥ (k : Int) / 2 + 1
    · exact (notboth _ _ k hsum e e2).elim
    · rw [decide_eq_false e2, if_neg Bool.false_ne_true]
      exact ht
  · rw [decide_eq_false e, if_neg Bool.false_ne_true]
    exact ht

theorem VoteApart : annalistlaw16_VoteApart.Pure := by
  intro a0 a1 h0 h1
  have b0 : 0 ≤ a0 ∧ a0 ≤ 18446744073709551615 := by simpa [Lit.wf, IntKind.min, IntKind.max, IntKind.signed, IntKind.bits] using h0
  have b1 : 0 ≤ a1 ∧ a1 ≤ 255 := by simpa [Lit.wf, IntKind.min, IntKind.max, IntKind.signed, IntKind.bits] using h1
  obtain ⟨s, rfl⟩ := Int.eq_ofNat_of_zero_le b0.1
  obtain ⟨n, rfl⟩ := Int.eq_ofNat_of_zero_le b1.1
  have hs : s < 2 ^ 64 := by omega
  have hx := xor_max s hs
  have hc : 2 ^ 64 - 1 - s < 2 ^ 64 := by omega
  have hk : wrap64 (1 + (wrap64 (Int.tmod (n : Int) 63))) = ((1 + n % 63 : Nat) : Int) := by
    rw [Int.tmod_eq_emod_of_nonneg (by omega)]; unfold wrap64; omega
  have hk1 : 1 + n % 63 ≤ 63 := by omega
  have hsum := cnt_not s hs (1 + n % 63) (by omega)
  generalize 2 ^ 64 - 1 - s = c at hx hc hsum
  generalize 1 + n % 63 = k at hk hk1 hsum
  unfold annalistlaw16_VoteApart.f
  rw [hk, hx, awake_f, Option.bind_some, if_pos rfl]
  exact core s c k hs hc hk1 hsum

end Go.Proofs.Ytpflopenjbealaa.Pure
