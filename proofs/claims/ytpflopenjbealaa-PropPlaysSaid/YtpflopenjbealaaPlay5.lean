/- Here is proved: a proposal of package prop and the reference's lists of votes go together, vote by vote. Conditions: none. -/
import Derived.Test.YtpflopenjbealaaPropPropPlays
import Derived.Test.YtpflopenjbealaaPlay4
namespace Go.Proofs.Ytpflopenjbealaa.Play
open Go Go.Proofs Go.RowKit Go.Proofs.Ytpflopenjbealaa.PPropPlays Go.Proofs.YtpflopenjbealaaW.PrintWords Go.Proofs.Ytpflopenjbealaa.SetsPropPlays Go.Proofs.YtpflopenjbealaaBits

structure Rel (n b : Int) (own : ByteArray) (s : PS) (P T : List S42) : Prop where
  n1 : 1 ≤ n
  n2 : n ≤ 63
  sn : s.n = n
  sb : s.b = b
  ph : s.ph = phaseOf n P.length T.length
  sv : s.v = valueOf n own P T
  pr : ∀ i : Nat, s.pr.testBit i = hadIn P i
  tk : ∀ i : Nat, s.tk.testBit i = hadIn T i
  inP : ∀ o ∈ P, 0 ≤ o.f1 ∧ o.f1 < n
  inT : ∀ o ∈ T, 0 ≤ o.f1 ∧ o.f1 < n
  cP : cnt s.pr 63 = P.length
  cT : cnt s.tk 63 = T.length
  lp : s.pr < 2 ^ 64
  lt : s.tk < 2 ^ 64
  none : s.ph = 1 → T = []
  best : s.best = (bestK own P).1
  found : s.best > 0 → s.fd = (bestK own P).2
  least : s.best ≤ 0 → (bestK own P).2 = own

theorem phase_in (n : Int) (p t : Nat) : phaseOf n p t = 1 ∨ phaseOf n p t = 2 ∨ phaseOf n p t = 3 := by
  unfold phaseOf; split
  · exact .inl rfl
  · split
    · exact .inr (.inl rfl)
    · exact .inr (.inr rfl)
theorem had_bound {n : Int} {l : List S42} (h : ∀ o ∈ l, 0 ≤ o.f1 ∧ o.f1 < n) (i : Nat) (hi : n ≤ (i : Int)) : hadIn l i = false := by
  unfold hadIn
  rw [List.any_eq_false]
  intro o ho
  have := h o ho
  simp; omega
theorem had_snoc (l : List S42) (o : S42) (x : Int) : hadIn (l ++ [o]) x = (hadIn l x || o.f1 == x) := by
  unfold hadIn; rw [List.any_append]; simp
theorem lives_len {n : Int} (h1 : 1 ≤ n) (h2 : n ≤ 63) (s : Nat) (l : List S42) (hb : ∀ i : Nat, s.testBit i = hadIn l i) (hl : ∀ o ∈ l, 0 ≤ o.f1 ∧ o.f1 < n) : lives s n = cnt s 63 := by
  unfold lives
  have e : min (max n 0).toNat 63 = n.toNat := by omega
  rw [e]
  have h3 : cnt (s % 2 ^ n.toNat) 63 = cnt s n.toNat := cnt_below s n.toNat 63 (by omega)
  rw [← h3]
  refine cnt_congr _ _ 63 (fun i hi => ?_)
  rw [Nat.testBit_mod_two_pow]
  by_cases hin : i < n.toNat
  · simp [hin]
  · rw [decide_eq_false hin, Bool.false_and, hb i, had_bound hl i (by omega)]
theorem put_bits (s : Nat) (x : Int) (h0 : 0 ≤ x) (h1 : x < 63) (l : List S42) (o : S42) (ho : o.f1 = x) (hb : ∀ i : Nat, s.testBit i = hadIn l i) (i : Nat) : (put s x).testBit i = hadIn (l ++ [o]) i := by
  have hin : inn x := ⟨h0, by omega⟩
  unfold put
  rw [if_pos hin, or_bit, hb i, had_snoc, ho]
  congr 1
  by_cases h : x = (i : Int)
  · rw [beq_iff_eq.2 h]; exact decide_eq_true (by omega)
  · rw [beq_eq_false_iff_ne.2 h]; exact decide_eq_false (by omega)
theorem best_nonneg (own : ByteArray) (P : List S42) : 0 ≤ (bestK own P).1 := by
  unfold bestK
  suffices h : ∀ (l : List S42) (s : Int × ByteArray), 0 ≤ s.1 → 0 ≤ (l.foldl (fun s o => if o.f3 > s.1 then (o.f3, o.f4) else s) s).1 from h P _ (Int.le_refl 0)
  intro l
  induction l with
  | nil => intro s h; exact h
  | cons o l ih =>
    intro s h
    rw [List.foldl_cons]
    refine ih _ ?_
    split
    · rename_i hgt
      exact Int.le_trans h (Int.le_of_lt hgt)
    · exact h
theorem best_snoc (own : ByteArray) (P : List S42) (o : S42) : bestK own (P ++ [o]) = if o.f3 > (bestK own P).1 then (o.f3, o.f4) else bestK own P := by
  unfold bestK; rw [List.foldl_append]; rfl

theorem rel_fresh (n0 b : Int) (own : ByteArray) : Rel (min (max n0 1) 63) b own (fresh n0 b own) [] [] := by
  have hp : phaseOf (min (max n0 1) 63) 0 0 = 1 := by unfold phaseOf; rw [if_pos (by omega)]
  refine ⟨by omega, by omega, rfl, rfl, hp.symm, ?_, fun i => ?_, fun i => ?_, fun o ho => by simp at ho, fun o ho => by simp at ho, ?_, ?_, (by decide : (0 : Nat) < 2 ^ 64), (by decide : (0 : Nat) < 2 ^ 64), fun _ => rfl, rfl, fun h => ?_, fun _ => rfl⟩
  · unfold valueOf; rw [List.length_nil, hp, if_pos rfl]; rfl
  · show (0 : Nat).testBit i = false; exact Nat.zero_testBit i
  · show (0 : Nat).testBit i = false; exact Nat.zero_testBit i
  · show cnt 0 63 = 0; decide
  · show cnt 0 63 = 0; decide
  · exact absurd h (by show ¬ ((0 : Int) > 0); omega)

/-- a vote at the program's proposal -/
def stepS (s : PS) (o : S42) : Bool × PS := if o.f0 = true then accepting s o.f1 o.f2 else promise s o.f1 o.f2 o.f3 o.f4

theorem counts_eq {n b : Int} {own : ByteArray} {s : PS} {P T : List S42} (h : Rel n b own s P T) (want : Int) (o : S42) (had : Nat) (l : List S42) (hb : ∀ i : Nat, had.testBit i = hadIn l i) :
    counts want s o.f1 o.f2 had = decide (phaseOf n P.length T.length = want ∧ ¬ (o.f2 ≠ b ∨ o.f1 < 0 ∨ o.f1 ≥ n) ∧ hadIn l o.f1 = false) := by
  have hn1 := h.n1; have hn2 := h.n2
  unfold counts
  rw [h.ph, h.sb, h.sn]
  by_cases h1 : phaseOf n P.length T.length = want
  · by_cases h2 : o.f2 = b
    · by_cases h3 : 0 ≤ o.f1
      · by_cases h4 : o.f1 < n
        · have hin : inn o.f1 := ⟨h3, by omega⟩
          have hbb := hb o.f1.toNat
          rw [Int.toNat_of_nonneg h3] at hbb
          rw [decide_eq_true h1, decide_eq_true h2, decide_eq_true h3, decide_eq_true h4, decide_eq_true hin, hbb]
          simp only [Bool.true_and]
          cases hh : hadIn l o.f1 with
          | true => exact (decide_eq_false (fun x => absurd x.2.2 (by decide))).symm
          | false => exact (decide_eq_true ⟨h1, by omega, rfl⟩).symm
        · rw [decide_eq_false h4]
          simp only [Bool.false_and, Bool.and_false]
          exact (decide_eq_false (fun x => x.2.1 (.inr (.inr (by omega))))).symm
      · rw [decide_eq_false h3]
        simp only [Bool.false_and, Bool.and_false]
        exact (decide_eq_false (fun x => x.2.1 (.inr (.inl (by omega))))).symm
    · rw [decide_eq_false h2]
      simp only [Bool.false_and, Bool.and_false]
      exact (decide_eq_false (fun x => x.2.1 (.inl h2))).symm
  · rw [decide_eq_false h1, Bool.false_and]
    exact (decide_eq_false (fun x => h1 x.1)).symm
theorem cnt_add {n : Int} (h1 : 1 ≤ n) (h2 : n ≤ 63) (s : Nat) (l : List S42) (o : S42) (hb : ∀ i : Nat, s.testBit i = hadIn l i) (hc : cnt s 63 = l.length) (h3 : 0 ≤ o.f1) (h4 : o.f1 < n) (hh : hadIn l o.f1 = false) :
    cnt (put s o.f1) 63 = (l ++ [o]).length := by
  have hin : inn o.f1 := ⟨h3, by omega⟩
  have hbb := hb o.f1.toNat
  rw [Int.toNat_of_nonneg h3, hh] at hbb
  rw [cnt_put, if_pos ⟨hin, hbb⟩, hc, List.length_append]; rfl
theorem bounds_snoc {n : Int} {l : List S42} {o : S42} (h : ∀ x ∈ l, 0 ≤ x.f1 ∧ x.f1 < n) (h3 : 0 ≤ o.f1) (h4 : o.f1 < n) : ∀ x ∈ l ++ [o], 0 ≤ x.f1 ∧ x.f1 < n := by
  intro x hx
  rcases List.mem_append.1 hx with hx | hx
  · exact h x hx
  · rw [List.mem_singleton.1 hx]; exact ⟨h3, h4⟩
theorem enough_iff {n : Int} (h1 : 1 ≤ n) (h2 : n ≤ 63) (s : Nat) (l : List S42) (o : S42) (hb : ∀ i : Nat, s.testBit i = hadIn l i) (hl : ∀ x ∈ l, 0 ≤ x.f1 ∧ x.f1 < n) (hc : cnt s 63 = l.length) (h3 : 0 ≤ o.f1) (h4 : o.f1 < n) (hh : hadIn l o.f1 = false) :
    enough (put s o.f1) n = decide (2 * ((l.length + 1 : Nat) : Int) > n) := by
  have hll := lives_len h1 h2 (put s o.f1) (l ++ [o]) (put_bits s o.f1 h3 (by omega) l o rfl hb) (bounds_snoc hl h3 h4)
  have hcc := cnt_add h1 h2 s l o hb hc h3 h4 hh
  unfold enough
  rw [hll, hcc, List.length_append]
  have e : ((l.length + [o].length : Nat) : Int) = (l.length : Int) + 1 := by simp
  rw [e]
  by_cases hg : 2 * ((l.length + 1 : Nat) : Int) > n
  · rw [decide_eq_true hg]; exact decide_eq_true (by omega)
  · rw [decide_eq_false hg]; exact decide_eq_false (by omega)

theorem rel_step {n b : Int} {own : ByteArray} {s : PS} {P T : List S42} (h : Rel n b own s P T) (o : S42) :
    (stepS s o).1 = (doR n b P T o).1 ∧ Rel n b own (stepS s o).2 (doR n b P T o).2.1 (doR n b P T o).2.2 := by
  have hn1 := h.n1; have hn2 := h.n2
  have hph := h.ph
  unfold stepS
  by_cases c : o.f2 ≠ b ∨ o.f1 < 0 ∨ o.f1 ≥ n
  · have e : doR n b P T o = (false, P, T) := if_pos c
    rw [e]
    by_cases h0 : o.f0 = true
    · rw [if_pos h0]
      have hc : counts 2 s o.f1 o.f2 s.tk = false := by rw [counts_eq h 2 o s.tk T h.tk]; exact decide_eq_false (fun x => x.2.1 c)
      unfold accepting
      rw [hc, if_neg (by decide)]
      exact ⟨rfl, h⟩
    · rw [if_neg h0]
      have hc : counts 1 s o.f1 o.f2 s.pr = false := by rw [counts_eq h 1 o s.pr P h.pr]; exact decide_eq_false (fun x => x.2.1 c)
      unfold promise
      rw [hc, if_neg (by decide)]
      exact ⟨rfl, h⟩
  · have h3 : 0 ≤ o.f1 := by omega
    have h4 : o.f1 < n := by omega
    unfold doR
    rw [if_neg c]
    simp only
    by_cases h0 : o.f0 = true
    · rw [if_pos h0]
      have hnf : ¬ (o.f0 = false ∧ phaseOf n P.length T.length = 1 ∧ hadIn P o.f1 = false) := fun x => by rw [h0] at x; exact absurd x.1 (by decide)
      rw [if_neg hnf]
      have hc := counts_eq h 2 o s.tk T h.tk
      unfold accepting
      by_cases hyes : phaseOf n P.length T.length = 2 ∧ hadIn T o.f1 = false
      · have hc2 : counts 2 s o.f1 o.f2 s.tk = true := by rw [hc]; exact decide_eq_true ⟨hyes.1, c, hyes.2⟩
        have hp2 := hyes.1
        have eE : enough (put s.tk o.f1) s.n = decide (2 * ((T.length + 1 : Nat) : Int) > n) := by rw [h.sn]; exact enough_iff hn1 hn2 s.tk T o h.tk h.inT h.cT h3 h4 hyes.2
        have eD : (if o.f0 = true ∧ phaseOf n P.length T.length = 2 ∧ hadIn T o.f1 = false then T ++ [o] else T) = T ++ [o] := if_pos ⟨h0, hyes⟩
        rw [hc2, if_pos rfl, eD, eE, List.length_append]
        have hpn : ¬ 2 * (P.length : Int) ≤ n := by
          intro x
          unfold phaseOf at hp2
          rw [if_pos x] at hp2
          exact absurd hp2 (by decide)
        have hbits := put_bits s.tk o.f1 h3 (by omega) T o rfl h.tk
        have hcnt := cnt_add hn1 hn2 s.tk T o h.tk h.cT h3 h4 hyes.2
        have hb2 := bounds_snoc h.inT h3 h4
        have hl2 := put_lt s.tk o.f1 h.lt
        have hv : ∀ T2 : List S42, phaseOf n P.length T2.length ≠ 1 := fun T2 x => by
          unfold phaseOf at x
          rw [if_neg hpn] at x
          split at x <;> exact absurd x (by decide)
        have hval : ∀ T2 : List S42, valueOf n own P T2 = s.v := fun T2 => by
          rw [h.sv]; unfold valueOf; rw [if_neg (hv T2), if_neg (hv T)]
        by_cases hg : 2 * ((T.length + 1 : Nat) : Int) > n
        · have hp3 : phaseOf n P.length (T.length + 1) = 3 := by unfold phaseOf; rw [if_neg hpn, if_neg (by omega)]
          rw [decide_eq_true hg, if_pos rfl]
          refine ⟨?_, ?_⟩
          · show true = (phaseOf n P.length (T.length + 1) != phaseOf n P.length T.length)
            rw [hp3, hp2]; rfl
          · exact ⟨hn1, hn2, h.sn, h.sb, by rw [List.length_append]; exact hp3.symm, (hval _).symm, h.pr, hbits, h.inP, hb2, h.cP, hcnt, h.lp, hl2, fun x => absurd x (by show ¬ (3 : Int) = 1; decide), h.best, h.found, h.least⟩
        · have hp3 : phaseOf n P.length (T.length + 1) = 2 := by unfold phaseOf; rw [if_neg hpn, if_pos (by omega)]
          rw [decide_eq_false hg, if_neg (by decide)]
          refine ⟨?_, ?_⟩
          · show false = (phaseOf n P.length (T.length + 1) != phaseOf n P.length T.length)
            rw [hp3, hp2]; rfl
          · exact ⟨hn1, hn2, h.sn, h.sb, by rw [List.length_append]; show s.ph = _; rw [hph, hp2]; exact hp3.symm, (hval _).symm, h.pr, hbits, h.inP, hb2, h.cP, hcnt, h.lp, hl2, fun x => absurd x (by show ¬ s.ph = 1; rw [hph, hp2]; decide), h.best, h.found, h.least⟩
      · have hc2 : counts 2 s o.f1 o.f2 s.tk = false := by rw [hc]; exact decide_eq_false (fun x => hyes ⟨x.1, x.2.2⟩)
        rw [hc2, if_neg (by decide), if_neg (fun x => hyes x.2), bne_self_eq_false]
        exact ⟨rfl, h⟩
    · rw [if_neg h0]
      have h0f : o.f0 = false := by simpa using h0
      rw [if_neg (fun x : o.f0 = true ∧ phaseOf n P.length T.length = 2 ∧ hadIn T o.f1 = false => h0 x.1)]
      have hc := counts_eq h 1 o s.pr P h.pr
      unfold promise
      by_cases hyes : phaseOf n P.length T.length = 1 ∧ hadIn P o.f1 = false
      · have hc2 : counts 1 s o.f1 o.f2 s.pr = true := by rw [hc]; exact decide_eq_true ⟨hyes.1, c, hyes.2⟩
        have hp1 := hyes.1
        have hT : T = [] := h.none (by rw [hph]; exact hp1)
        have hpn : 2 * (P.length : Int) ≤ n := by
          rcases Decidable.em (2 * (P.length : Int) ≤ n) with x | x
          · exact x
          · unfold phaseOf at hp1
            rw [if_neg x] at hp1
            split at hp1 <;> exact absurd hp1 (by decide)
        have hsv : s.v = own := by rw [h.sv]; unfold valueOf; rw [if_pos hp1]
        have eE : enough (put s.pr o.f1) s.n = decide (2 * ((P.length + 1 : Nat) : Int) > n) := by rw [h.sn]; exact enough_iff hn1 hn2 s.pr P o h.pr h.inP h.cP h3 h4 hyes.2
        have eD : (if o.f0 = false ∧ phaseOf n P.length T.length = 1 ∧ hadIn P o.f1 = false then P ++ [o] else P) = P ++ [o] := if_pos ⟨h0f, hyes⟩
        rw [hc2, if_pos rfl, eD, eE, List.length_append]
        have hbits := put_bits s.pr o.f1 h3 (by omega) P o rfl h.pr
        have hcnt := cnt_add hn1 hn2 s.pr P o h.pr h.cP h3 h4 hyes.2
        have hb2 := bounds_snoc h.inP h3 h4
        have hl2 := put_lt s.pr o.f1 h.lp
        have hnn := best_nonneg own P
        have hbest : best' s o.f3 = (bestK own (P ++ [o])).1 := by
          rw [best_snoc]; unfold best'; rw [h.best]
          split <;> rfl
        have hfound : best' s o.f3 > 0 → fd' s o.f3 o.f4 = (bestK own (P ++ [o])).2 := by
          rw [best_snoc]; unfold best' fd'; rw [h.best]
          intro x
          split
          · rfl
          · rename_i y
            rw [if_neg y] at x
            exact h.found (by rw [h.best]; exact x)
        have hleast : best' s o.f3 ≤ 0 → (bestK own (P ++ [o])).2 = own := by
          rw [best_snoc]; unfold best'; rw [h.best]
          intro x
          split
          · rename_i y
            rw [if_pos y] at x
            omega
          · rename_i y
            rw [if_neg y] at x
            exact h.least (by rw [h.best]; exact x)
        by_cases hg : 2 * ((P.length + 1 : Nat) : Int) > n
        · have hp3 : phaseOf n (P.length + 1) T.length = 2 := by
            unfold phaseOf; rw [if_neg (by omega), hT, if_pos (by simp; omega)]
          have hp4 : phaseOf n (P ++ [o]).length T.length = 2 := by rw [List.length_append]; exact hp3
          rw [decide_eq_true hg, if_pos rfl]
          refine ⟨?_, ?_⟩
          · show true = (phaseOf n (P.length + 1) T.length != phaseOf n P.length T.length)
            rw [hp3, hp1]; rfl
          · refine ⟨hn1, hn2, h.sn, h.sb, hp4.symm, ?_, hbits, h.tk, hb2, h.inT, hcnt, h.cT, hl2, h.lt, fun x => absurd x (by show ¬ (2 : Int) = 1; decide), hbest, hfound, hleast⟩
            unfold valueOf
            rw [hp4, if_neg (show ¬ (2 : Int) = 1 by decide)]
            show (if best' s o.f3 > 0 then fd' s o.f3 o.f4 else s.v) = _
            by_cases x : best' s o.f3 > 0
            · rw [if_pos x]; exact hfound x
            · rw [if_neg x, hsv]; exact (hleast (by omega)).symm
        · have hp3 : phaseOf n (P.length + 1) T.length = 1 := by unfold phaseOf; rw [if_pos (by omega)]
          have hp4 : phaseOf n (P ++ [o]).length T.length = 1 := by rw [List.length_append]; exact hp3
          rw [decide_eq_false hg, if_neg (by decide)]
          refine ⟨?_, ?_⟩
          · show false = (phaseOf n (P.length + 1) T.length != phaseOf n P.length T.length)
            rw [hp3, hp1]; rfl
          · refine ⟨hn1, hn2, h.sn, h.sb, ?_, ?_, hbits, h.tk, hb2, h.inT, hcnt, h.cT, hl2, h.lt, fun _ => hT, hbest, hfound, hleast⟩
            · show s.ph = _
              rw [hph, hp1, hp4]
            · unfold valueOf
              rw [hp4, if_pos rfl]; exact hsv
      · have hc2 : counts 1 s o.f1 o.f2 s.pr = false := by rw [hc]; exact decide_eq_false (fun x => hyes ⟨x.1, x.2.2⟩)
        rw [hc2, if_neg (by decide), if_neg (fun x => hyes x.2), bne_self_eq_false]
        exact ⟨rfl, h⟩
theorem rel_lens {n b : Int} {own : ByteArray} {s : PS} {P T : List S42} (h : Rel n b own s P T) : P.length ≤ 63 ∧ T.length ≤ 63 := by
  have h1 := cnt_le s.pr 63
  have h2 := cnt_le s.tk 63
  rw [h.cP] at h1; rw [h.cT] at h2
  exact ⟨h1, h2⟩
end Go.Proofs.Ytpflopenjbealaa.Play
