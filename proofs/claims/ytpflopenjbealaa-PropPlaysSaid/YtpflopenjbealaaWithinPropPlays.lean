/- Within and Enough, over one law's printed functions. -/
import Derived.Test.YtpflopenjbealaaSetsPropPlays
namespace Go.Proofs.Ytpflopenjbealaa.SetsPropPlays
open Go.RowKit Go.Proofs.Ytpflopenjbealaa.PPropPlays Go.Proofs.YtpflopenjbealaaW.PrintWords Go.Proofs.YtpflopenjbealaaW.PrintLast Go.Proofs.YtpflopenjbealaaW.PrintMore Go.Proofs.YtpflopenjbealaaBits

def below (s : Nat) (n : Int) : Nat := if n < 1 then 0 else if n > 62 then s else s % 2 ^ n.toNat
theorem below_lt (s : Nat) (n : Int) (hs : s < 2 ^ 64) : below s n < 2 ^ 64 := by
  unfold below
  split
  · decide
  · split
    · exact hs
    · exact Nat.lt_of_le_of_lt (Nat.mod_le _ _) hs

theorem within_f (s : Nat) (n : Int) (hs : s < 2 ^ 64) : vote_Set_Within.f s n = some ((below s n : Nat) : Int) := by
  unfold vote_Set_Within.f below
  by_cases h0 : n < 1
  · rw [if_pos h0, if_pos h0]; rfl
  · rw [if_neg h0, if_neg h0]
    by_cases h1 : 62 < n
    · rw [if_pos h1, if_pos h1]
    · rw [if_neg h1, if_neg h1, if_pos (by omega)]
      obtain ⟨m, rfl⟩ := Int.eq_ofNat_of_zero_le (show 0 ≤ n by omega)
      unfold shl
      rw [show IntKind.u64.bits = 64 from rfl, Int.toNat_natCast, within_bits s m hs (by omega)]

/-- how many of those below n -/
def lives (s : Nat) (n : Int) : Nat := cnt s (min (max n 0).toNat 63)
theorem cnt_below63 (s : Nat) (n : Int) : cnt (below s n) 63 = lives s n := by
  unfold below lives
  by_cases h0 : n < 1
  · rw [if_pos h0, show min (max n 0).toNat 63 = 0 from by omega]
    exact cnt_stay 0 0 (by decide) 63
  · rw [if_neg h0]
    by_cases h1 : n > 62
    · rw [if_pos h1, show min (max n 0).toNat 63 = 63 from by omega]
    · rw [if_neg h1, show min (max n 0).toNat 63 = n.toNat from by omega, cnt_below s n.toNat 63 (by omega)]

theorem enough_f (s : Nat) (n : Int) (hs : s < 2 ^ 64) (hn : n ≤ 9223372036854775807) :
    vote_Enough.f s n = some (decide ((lives s n : Int) ≥ (max n 0) / 2 + 1)) := by
  unfold vote_Enough.f
  rw [within_f s n hs, Option.bind_some, len_f _ (below_lt s n hs), Option.bind_some, maj_f n hn, Option.bind_some, cnt_below63]

end Go.Proofs.Ytpflopenjbealaa.SetsPropPlays
