/- Proved: to a set of nodes to which at most 100 nodes are put, one by one, each node from 0 to 62 is counted just once. Conditions: none. -/
import Derived.Test.YtpflopenjbealaaQVoteGrowsx1
import Derived.Test.YtpflopenjbealaaSetsVoteGrows
namespace Go.Proofs.Ytpflopenjbealaa.Pure
open Go.RowKit Go.Proofs.Ytpflopenjbealaa.PVoteGrows Go.Proofs.YtpflopenjbealaaW.PrintWords Go.Proofs.YtpflopenjbealaaW.PrintLast Go.Proofs.YtpflopenjbealaaBits Go.Proofs.Ytpflopenjbealaa.SetsVoteGrows

theorem grows_loop (l : List Int) (hl : l.length ≤ 100) (d : Nat) : ∀ (k : Nat) (s : Nat) (n i : Int), s < 2 ^ 64 → n = (cnt s 63 : Nat) → 0 ≤ i → i ≤ l.length → (l.length : Int) - i = d → 3 * d < k →
    annalistlaw16_VoteGrows.l0 k l s n i = some true := by
  induction d with
  | zero =>
    intro k s n i hs hn h0 h1 hd hk
    obtain ⟨k, rfl⟩ : ∃ m, k = m + 1 := ⟨k - 1, by omega⟩
    simp only [annalistlaw16_VoteGrows.l0]; rw [if_neg (by omega)]
  | succ d ih =>
    intro k s n i hs hn h0 h1 hd hk
    obtain ⟨k, rfl⟩ : ∃ m, k = m + 1 + 1 + 1 := ⟨k - 3, by omega⟩
    have hlt : i < (l.length : Int) := by omega
    have hc := cnt_le s 63
    have hw1 : wrap64 (n + 1) = n + 1 := by unfold wrap64; omega
    have hw2 : wrap64 (i + 1) = i + 1 := by unfold wrap64; omega
    have j3 : ∀ m : Int, m = (cnt (put s (rd l i)) 63 : Nat) → annalistlaw16_VoteGrows.j3 (k + 1) l s m i = some true := by
      intro m hm
      simp only [annalistlaw16_VoteGrows.j3]
      rw [if_pos h0, if_pos hlt, with_f s _ hs, Option.bind_some]
      rw [len_f _ (put_lt s _ hs), Option.bind_some]
      rw [if_pos hm.symm, hw2]
      exact ih k _ m (i + 1) (put_lt s _ hs) hm (by omega) (by omega) (by omega) (by omega)
    have hput := cnt_put s (rd l i)
    have j2f : ¬ (inn (rd l i) ∧ s.testBit (rd l i).toNat = false) → annalistlaw16_VoteGrows.j2 (k + 1 + 1) l s n i false = some true := by
      intro h
      rw [if_neg h] at hput
      simp only [annalistlaw16_VoteGrows.j2]
      rw [if_neg Bool.false_ne_true]
      exact j3 n (by rw [hput]; omega)
    have j2t : (inn (rd l i) ∧ s.testBit (rd l i).toNat = false) → annalistlaw16_VoteGrows.j2 (k + 1 + 1) l s n i true = some true := by
      intro h
      rw [if_pos h] at hput
      simp only [annalistlaw16_VoteGrows.j2]
      rw [if_pos True.intro, hw1]
      exact j3 (n + 1) (by rw [hput]; omega)
    simp only [annalistlaw16_VoteGrows.l0]
    rw [if_pos hlt, if_pos h0]
    by_cases g0 : rd l i ≥ 0
    · rw [if_pos g0]
      by_cases g1 : rd l i ≤ 62
      · rw [if_pos g1, has_f s _ hs, decide_eq_true (show inn (rd l i) from ⟨g0, g1⟩), Option.bind_some, Bool.true_and]
        cases hb : s.testBit (rd l i).toNat <;> simp only [Bool.not_true, Bool.not_false]
        · exact j2t ⟨⟨g0, g1⟩, hb⟩
        · exact j2f (fun h => by rw [hb] at h; exact absurd h.2 (by decide))
      · rw [if_neg g1]; exact j2f (fun h => g1 h.1.2)
    · rw [if_neg g0]; exact j2f (fun h => g0 h.1.1)

theorem VoteGrows : annalistlaw16_VoteGrows.Pure := by
  intro l _ _ _
  refine ⟨302, ?_⟩
  unfold annalistlaw16_VoteGrows.f
  rw [awake_f, Option.bind_some]
  rw [if_pos rfl]
  by_cases h : (l.length : Int) > 100
  · rw [decide_eq_true h]
    simp only [annalistlaw16_VoteGrows.j0]
    rw [if_pos True.intro, awake_f, Option.bind_some]
  · rw [decide_eq_false h]
    simp only [annalistlaw16_VoteGrows.j0]
    rw [if_neg Bool.false_ne_true]
    have e := grows_loop l (by omega) l.length 301 0 0 0 (by decide) (by decide) (by omega) (by omega) (by omega) (by omega)
    rw [show ((0 : Nat) : Int) = 0 from rfl] at e
    exact e

end Go.Proofs.Ytpflopenjbealaa.Pure
