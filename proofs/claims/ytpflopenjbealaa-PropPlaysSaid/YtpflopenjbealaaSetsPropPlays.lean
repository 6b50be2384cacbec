/- What the functions of package vote come to, as sets of bits (over one law's printed functions). -/
import Derived.Test.YtpflopenjbealaaQPropPlaysx2
import Derived.Test.YtpflopenjbealaaBits
namespace Go.Proofs.Ytpflopenjbealaa.SetsPropPlays
open Go.RowKit Go.Proofs.Ytpflopenjbealaa.PPropPlays Go.Proofs.YtpflopenjbealaaW.PrintWords Go.Proofs.YtpflopenjbealaaW.PrintLast Go.Proofs.YtpflopenjbealaaW.PrintMore Go.Proofs.YtpflopenjbealaaBits

def inn (i : Int) : Prop := 0 ≤ i ∧ i ≤ 62
instance (i : Int) : Decidable (inn i) := inferInstanceAs (Decidable (_ ∧ _))

theorem has_f (s : Nat) (i : Int) (hs : s < 2 ^ 64) : vote_Set_Has.f s i = some (decide (inn i) && s.testBit i.toNat) := by
  unfold vote_Set_Has.f
  by_cases h0 : 0 ≤ i
  · by_cases h1 : i ≤ 62
    · obtain ⟨n, rfl⟩ := Int.eq_ofNat_of_zero_le h0
      rw [if_pos h0, if_pos h1, if_pos h0]
      unfold shr
      rw [show min (n : Int).toNat IntKind.u64.bits = n from Nat.min_eq_left (by show n ≤ 64; omega), has_bit s n hs, decide_eq_true (show inn (n : Int) from ⟨h0, h1⟩)]
      simp
    · rw [if_pos h0, if_neg h1, decide_eq_false (fun h : inn i => h1 h.2)]; simp
  · rw [if_neg h0, decide_eq_false (fun h : inn i => h0 h.1)]; simp

def put (s : Nat) (i : Int) : Nat := if inn i then s ||| 2 ^ i.toNat else s
theorem put_lt (s : Nat) (i : Int) (hs : s < 2 ^ 64) : put s i < 2 ^ 64 := by
  unfold put
  split
  · rename_i h; exact or_lt s _ hs (by have := h.1; have := h.2; omega)
  · exact hs

theorem with_f (s : Nat) (i : Int) (hs : s < 2 ^ 64) : vote_Set_With.f s i = some ((put s i : Nat) : Int) := by
  unfold vote_Set_With.f put
  by_cases h0 : i < 0
  · rw [if_pos h0, if_neg (fun h : inn i => by have := h.1; omega)]
  · rw [if_neg h0]
    by_cases h1 : 62 < i
    · rw [if_pos h1, if_neg (fun h : inn i => by have := h.2; omega)]
    · obtain ⟨n, rfl⟩ := Int.eq_ofNat_of_zero_le (show 0 ≤ i by omega)
      rw [if_neg h1, if_pos (by omega), if_pos (show inn (n : Int) from ⟨by omega, by omega⟩)]
      unfold shl
      rw [show IntKind.u64.bits = 64 from rfl]
      rw [with_bit s (n : Int).toNat hs (by omega)]

theorem len_f (s : Nat) (hs : s < 2 ^ 64) : vote_Set_Len.f s = some ((cnt s 63 : Nat) : Int) := by
  have h := len_bits s hs
  unfold vote_Set_Len.f
  have e : ∀ a : Int, bits_OnesCount64.f a = some (ones a) := fun a => rfl
  rw [e, h]; rfl

theorem cnt_put (s : Nat) (i : Int) : cnt (put s i) 63 = cnt s 63 + (if inn i ∧ s.testBit i.toNat = false then 1 else 0) := by
  unfold put
  by_cases h : inn i
  · rw [if_pos h, cnt_or]
    have := h.1; have := h.2
    by_cases h2 : s.testBit i.toNat = false
    · rw [if_pos ⟨by omega, h2⟩, if_pos ⟨h, h2⟩]
    · rw [if_neg (fun x => h2 x.2), if_neg (fun x => h2 x.2)]
  · rw [if_neg h, if_neg (fun x => h x.1)]; rfl

theorem maj_f (n : Int) (h : n ≤ 9223372036854775807) : vote_Majority.f n = some ((max n 0) / 2 + 1) := by
  unfold vote_Majority.f
  have e : mx n 0 = max n 0 := by unfold mx; omega
  rw [e]
  have e1 : wrap64 ((max n 0) / 2) = (max n 0) / 2 := by unfold wrap64; omega
  rw [e1]
  have e2 : wrap64 ((max n 0) / 2 + 1) = (max n 0) / 2 + 1 := by unfold wrap64; omega
  rw [e2]

end Go.Proofs.Ytpflopenjbealaa.SetsPropPlays
