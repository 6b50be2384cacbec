/- Proved: after at most 100 promises what a proposal proposes is its own value, or one that was told with a ballot above 0. Conditions: none. -/
import Derived.Test.YtpflopenjbealaaPropPropValues
import Derived.Test.YtpflopenjbealaaReadsPropValues
namespace Go.Proofs.Ytpflopenjbealaa.Pure
open Go.RowKit Go.Proofs.Ytpflopenjbealaa.PPropValues Go.Proofs.YtpflopenjbealaaW.PrintWords Go.Proofs.YtpflopenjbealaaW.PrintLast Go.Proofs.YtpflopenjbealaaW.PrintMore Go.Proofs.YtpflopenjbealaaBits Go.Proofs.Ytpflopenjbealaa.SetsPropValues

/-- what holds after the first i promises -/
structure Inv (own : ByteArray) (l : List S42) (i : Nat) (s : PS) : Prop where
  ok : s.ok
  phase : s.ph = 1 ∨ s.ph = 2
  asks : s.ph = 1 → s.v = own
  best : 0 ≤ s.best
  found : s.best > 0 → ∃ j, j < i ∧ j < l.length ∧ (rd_T42 l j).f3 > 0 ∧ (rd_T42 l j).f4 = s.fd
  told : s.ph = 2 → s.v = own ∨ ∃ j, j < i ∧ j < l.length ∧ (rd_T42 l j).f3 > 0 ∧ (rd_T42 l j).f4 = s.v

theorem inv_step (own : ByteArray) (l : List S42) (i : Nat) (s : PS) (h : Inv own l i s) (hi : i < l.length) :
    Inv own l (i + 1) (promise s (rd_T42 l i).f1 7 (rd_T42 l i).f3 (rd_T42 l i).f4).2 := by
  have hok := promise_ok s (rd_T42 l i).f1 7 (rd_T42 l i).f3 (rd_T42 l i).f4 h.ok
  have hf : best' s (rd_T42 l i).f3 > 0 → ∃ j, j < i + 1 ∧ j < l.length ∧ (rd_T42 l j).f3 > 0 ∧ (rd_T42 l j).f4 = fd' s (rd_T42 l i).f3 (rd_T42 l i).f4 := by
    unfold best' fd'
    by_cases hb : (rd_T42 l i).f3 > s.best
    · rw [if_pos hb, if_pos hb]; intro hp; exact ⟨i, by omega, hi, hp, rfl⟩
    · rw [if_neg hb, if_neg hb]; intro hp
      obtain ⟨j, h1, h2, h3, h4⟩ := h.found hp
      exact ⟨j, by omega, h2, h3, h4⟩
  have hb0 : 0 ≤ best' s (rd_T42 l i).f3 := by
    unfold best'
    have := h.best
    by_cases hb : (rd_T42 l i).f3 > s.best
    · rw [if_pos hb]; omega
    · rw [if_neg hb]; exact this
  revert hok
  unfold promise
  by_cases hc : counts 1 s (rd_T42 l i).f1 7 s.pr = true
  · have hph : s.ph = 1 := by
      unfold counts at hc
      rw [Bool.and_eq_true] at hc
      exact of_decide_eq_true hc.1
    have hv := h.asks hph
    rw [if_pos hc]
    by_cases he : enough (put s.pr (rd_T42 l i).f1) s.n = true
    · rw [if_pos he]
      intro hok
      refine ⟨hok, .inr rfl, fun e => absurd (show (2 : Int) = 1 from e) (by decide), hb0, hf, fun _ => ?_⟩
      show (if best' s (rd_T42 l i).f3 > 0 then fd' s (rd_T42 l i).f3 (rd_T42 l i).f4 else s.v) = own ∨ ∃ j, j < i + 1 ∧ j < l.length ∧ (rd_T42 l j).f3 > 0 ∧ (rd_T42 l j).f4 = (if best' s (rd_T42 l i).f3 > 0 then fd' s (rd_T42 l i).f3 (rd_T42 l i).f4 else s.v)
      by_cases hp : best' s (rd_T42 l i).f3 > 0
      · rw [if_pos hp]; exact .inr (hf hp)
      · rw [if_neg hp]; exact .inl hv
    · rw [if_neg he]
      intro hok
      exact ⟨hok, .inl hph, fun _ => hv, hb0, hf, fun e => absurd (hph.symm.trans e) (by decide)⟩
  · rw [if_neg hc]
    intro hok
    refine ⟨hok, h.phase, h.asks, h.best, fun hp => ?_, fun he => ?_⟩
    · obtain ⟨j, h1, h2⟩ := h.found hp; exact ⟨j, by omega, h2⟩
    · rcases h.told he with h1 | ⟨j, h1, h2⟩
      · exact .inl h1
      · exact .inr ⟨j, by omega, h2⟩

theorem search (l : List S42) (hl : l.length ≤ 100) (s : PS) (j : Nat) (hj : j < l.length) (h3 : (rd_T42 l j).f3 > 0) (h4 : (rd_T42 l j).f4 = s.v) (d : Nat) : ∀ (k i : Nat), i ≤ j → j - i = d → d < k →
    annalistlaw18_PropValues.l1 k l i s.n s.b s.ph s.v s.best s.fd s.pr s.tk = some true := by
  induction d with
  | zero =>
    intro k i hi hd hk
    obtain ⟨k, rfl⟩ : ∃ m, k = m + 1 := ⟨k - 1, by omega⟩
    obtain rfl : i = j := by omega
    simp only [annalistlaw18_PropValues.l1]
    rw [if_pos (by omega), if_pos (by omega)]
    unfold prop_Prop_Value.f
    rw [Option.bind_some, if_pos (by rw [h4]), if_pos h3]
  | succ d ih =>
    intro k i hi hd hk
    obtain ⟨k, rfl⟩ : ∃ m, k = m + 1 := ⟨k - 1, by omega⟩
    have hw : wrap64 ((i : Int) + 1) = ((i + 1 : Nat) : Int) := by unfold wrap64; omega
    have hr := ih k (i + 1) (by omega) (by omega) (by omega)
    simp only [annalistlaw18_PropValues.l1]
    rw [if_pos (by omega), if_pos (by omega)]
    unfold prop_Prop_Value.f
    rw [Option.bind_some, hw]
    by_cases e1 : (rd_T42 l (i : Int)).f4.toList = s.v.toList
    · rw [if_pos e1]
      by_cases e2 : (rd_T42 l (i : Int)).f3 > 0
      · rw [if_pos e2]
      · rw [if_neg e2]; exact hr
    · rw [if_neg e1]; exact hr

theorem values_loop (own : ByteArray) (l : List S42) (hl : l.length ≤ 100) (d : Nat) : ∀ (k i : Nat) (s : PS), i ≤ l.length → l.length - i = d → Inv own l i s → d + 200 < k →
    annalistlaw18_PropValues.l0 k own l i s.n s.b s.ph s.v s.best s.fd s.pr s.tk = some true := by
  induction d with
  | zero =>
    intro k i s hi hd hI hk
    obtain ⟨k, rfl⟩ : ∃ m, k = m + 1 := ⟨k - 1, by omega⟩
    simp only [annalistlaw18_PropValues.l0]
    rw [if_neg (by omega)]
    unfold prop_Prop_Value.f
    rw [Option.bind_some]
    by_cases e1 : s.v.toList = own.toList
    · rw [if_pos e1]
    · rw [if_neg e1]
      unfold prop_Prop_Phase.f
      rw [Option.bind_some]
      rcases hI.phase with h1 | h2
      · exact absurd (by rw [hI.asks h1]) e1
      · rw [if_pos h2]
        rcases hI.told h2 with h3 | ⟨j, _, h5, h6, h7⟩
        · exact absurd (by rw [h3]) e1
        · exact search l hl s j h5 h6 h7 j k 0 (Nat.zero_le _) rfl (by omega)
  | succ d ih =>
    intro k i s hi hd hI hk
    obtain ⟨k, rfl⟩ : ∃ m, k = m + 1 + 1 := ⟨k - 2, by omega⟩
    have hw : wrap64 ((i : Int) + 1) = ((i + 1 : Nat) : Int) := by unfold wrap64; omega
    have hn := inv_step own l i s hI (by omega)
    simp only [annalistlaw18_PropValues.l0]
    rw [if_pos (by omega), if_pos (by omega), promised_f k s _ 7 _ _ hI.ok.2.2.1 hI.ok.big, Option.bind_some, hw]
    exact ih (k + 1) (i + 1) (promise s (rd_T42 l i).f1 7 (rd_T42 l i).f3 (rd_T42 l i).f4).2 (by omega) (by omega) hn (by omega)

theorem PropValues (n : Int) (own : ByteArray) (l : List S42) (_ : (Lit.int .i64 n).wf = true) (_ : own.size ≤ 140737488351232) (_ : l.length ≤ maxLen) (_ : ∀ x ∈ l, Op42 x) : ∃ k, annalistlaw18_PropValues.f k n own l = some true := by
  refine ⟨400, ?_⟩
  unfold annalistlaw18_PropValues.f
  rw [awake18_f 399, Option.bind_some, if_pos rfl]
  by_cases h : (l.length : Int) > 100
  · rw [decide_eq_true h]
    simp only [annalistlaw18_PropValues.j0]
    rw [if_pos True.intro, awake18_f 398, Option.bind_some]
  · rw [decide_eq_false h]
    simp only [annalistlaw18_PropValues.j0]
    rw [if_neg Bool.false_ne_true, new_f n 7 own, Option.bind_some]
    refine values_loop own l (by omega) l.length 399 0 (fresh n 7 own) (Nat.zero_le _) rfl ⟨fresh_ok n 7 own, .inl rfl, fun _ => rfl, Int.le_refl _, fun h => absurd (show (0 : Int) > 0 from h) (by decide), fun h => absurd (show (1 : Int) = 2 from h) (by decide)⟩ (by omega)

end Go.Proofs.Ytpflopenjbealaa.Pure
