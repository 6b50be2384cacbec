/- The reference's count of nodes, over one law's printed functions. -/
import Derived.Test.YtpflopenjbealaaNodesVoteSets
namespace Go.Proofs.Ytpflopenjbealaa.SetsVoteSets
open Go.RowKit Go.Proofs.Ytpflopenjbealaa.PVoteSets Go.Proofs.YtpflopenjbealaaW.PrintWords Go.Proofs.YtpflopenjbealaaW.PrintLast Go.Proofs.YtpflopenjbealaaW.PrintMore Go.Proofs.YtpflopenjbealaaBits

theorem count_loop (s : Nat) (n : Int) (d : Nat) : ∀ (k i : Nat), i ≤ (min (max n 0).toNat 63) → (min (max n 0).toNat 63) - i = d → 2 * d + 1 < k →
    annalistref16_Count.l0 k (bitsOf s) n ((cnt s i : Nat) : Int) (i : Int) = some ((lives s n : Nat) : Int) := by
  induction d with
  | zero =>
    intro k i hi hd hk
    obtain ⟨k, rfl⟩ : ∃ m, k = m + 1 + 1 := ⟨k - 2, by omega⟩
    have e : cnt s i = lives s n := by unfold lives; rw [show i = min (max n 0).toNat 63 from by omega]
    simp only [annalistref16_Count.l0]
    by_cases h : (i : Int) < 63
    · rw [if_pos h, decide_eq_false (by omega)]
      simp only [annalistref16_Count.j1]
      rw [if_neg Bool.false_ne_true, e]
    · rw [if_neg h]
      simp only [annalistref16_Count.j1]
      rw [if_neg Bool.false_ne_true, e]
  | succ d ih =>
    intro k i hi hd hk
    obtain ⟨k, rfl⟩ : ∃ m, k = m + 1 + 1 := ⟨k - 2, by omega⟩
    have h63 : i < 63 := by omega
    have hc := cnt_le s i
    have hw : wrap64 ((i : Int) + 1) = ((i + 1 : Nat) : Int) := by unfold wrap64; omega
    have hw2 : wrap64 (((cnt s i : Nat) : Int) + 1) = ((cnt s i + 1 : Nat) : Int) := by unfold wrap64; omega
    have hr := ih k (i + 1) (by omega) (by omega) (by omega)
    have hb := bitsOf_get s (i : Int) (by omega) (by omega)
    rw [Int.toNat_natCast] at hb
    simp only [annalistref16_Count.l0]
    rw [if_pos (by omega), decide_eq_true (by omega)]
    simp only [annalistref16_Count.j1]
    rw [if_pos True.intro, if_pos (by omega), if_pos (by rw [bitsOf_len]; omega), hb, hw, hw2]
    simp only [cnt] at hr
    cases hs : s.testBit i
    · rw [if_neg Bool.false_ne_true]
      rw [hs, Bool.toNat_false, Nat.add_zero] at hr
      exact hr
    · rw [if_pos rfl]
      rw [hs, Bool.toNat_true] at hr
      exact hr

theorem count_f (s k : Nat) (n : Int) (hk : 127 < k) : annalistref16_Count.f k (bitsOf s) n = some ((lives s n : Nat) : Int) := by
  unfold annalistref16_Count.f
  exact count_loop s n ((min (max n 0).toNat 63) - 0) k 0 (Nat.zero_le _) rfl (by omega)
theorem lives63 (s : Nat) : lives s 63 = cnt s 63 := rfl

end Go.Proofs.Ytpflopenjbealaa.SetsVoteSets
