/- Here is proved: of whatever sizes and hashes it is told whether a range is right; of all numbers the stretches are the chapter's. Conditions: none. -/
import Derived.Test.YtolapikiflodfaaQRangesRightx1
import Derived.Test.YtolapikiflodfaaBits
namespace Go.Proofs.Ytolapikiflodfaa.Pure
open Go.RowKit Go.Proofs.Ytolapikiflodfaa.PRangesRight Go.Proofs.YtolapikiflodfaaW.PrintWords Go.Proofs.YtolapikiflodfaaW.PrintLast
open Go.Proofs.Ytolapikiflodfaa.Rng

/-- the powers below a power, the greatest first -/
def szs : Nat → Nat → List Int
  | 0, _ => []
  | j + 1, x => if 2 ^ j ≤ x then ((2 ^ j : Nat) : Int) :: szs j (x - 2 ^ j) else szs j x
theorem szs_len (j x : Nat) : (szs j x).length ≤ j := by
  induction j generalizing x with
  | zero => simp [szs]
  | succ j ih =>
    simp only [szs]; split
    · have := ih (x - 2 ^ j); simp only [List.length_cons]; omega
    · have := ih x; omega
theorem blen_top (x j : Nat) (h0 : 2 ^ j ≤ x) (h1 : x < 2 ^ (j + 1)) (hj : j ≤ 62) : hp x = 2 ^ j := by
  have hx : 0 < x := Nat.lt_of_lt_of_le (Nat.two_pow_pos j) h0
  have h64 : x < 2 ^ 64 := Nat.lt_of_lt_of_le h1 (Nat.pow_le_pow_right (by decide) (by omega))
  obtain ⟨i1, i2, i3, i4⟩ := blen_bd 64 x h64 hx
  unfold hp
  congr 1
  have a : blen 64 x - 1 < j + 1 := (Nat.pow_lt_pow_iff_right (a := 2) (by decide)).1 (Nat.lt_of_le_of_lt i3 h1)
  have b : j < blen 64 x := (Nat.pow_lt_pow_iff_right (a := 2) (by decide)).1 (Nat.lt_of_le_of_lt h0 i4)
  omega
theorem pws_szs (j : Nat) : ∀ (f x : Nat), j ≤ 63 → j ≤ f → x < 2 ^ j → (pws f x).map (fun p => (p.1 : Int)) = szs j x := by
  induction j with
  | zero => intro f x _ _ hx; obtain rfl : x = 0 := by simpa using hx
            rw [pws_zero]; rfl
  | succ j ih =>
    intro f x hj hf hx
    simp only [szs]
    by_cases h : 2 ^ j ≤ x
    · rw [if_pos h]
      obtain ⟨f, rfl⟩ : ∃ m, f = m + 1 := ⟨f - 1, by omega⟩
      have h63 : x < 2 ^ 63 := Nat.lt_of_lt_of_le hx (Nat.pow_le_pow_right (by decide) (by omega))
      have hx0 : 0 < x := Nat.lt_of_lt_of_le (Nat.two_pow_pos j) h
      have hh := blen_top x j h hx (by omega)
      simp only [pws]
      rw [if_neg (by omega), List.map_cons, mkPw_1 x h63 hx0, hh, ih f (x - 2 ^ j) (by omega) (by omega) (by rw [Nat.pow_succ] at hx; omega)]
    · rw [if_neg h]; exact ih f x (by omega) (by omega) (by omega)
theorem sizes_loop (j : Nat) : ∀ (k x : Nat) (out : List Int), j ≤ 41 → x < 2 ^ j → out.length + j ≤ 41 → j + 1 < k →
    annalistref06_Sizes.l0 k (x : Int) out (((2 ^ j / 2 : Nat)) : Int) = some (out ++ szs j x) := by
  induction j with
  | zero =>
    intro k x out _ hx _ hk
    obtain ⟨k, rfl⟩ : ∃ m, k = m + 1 := ⟨k - 1, by omega⟩
    simp only [annalistref06_Sizes.l0]
    rw [if_neg (by decide)]
    simp [szs]
  | succ j ih =>
    intro k x out hj hx hl hk
    obtain ⟨k, rfl⟩ : ∃ m, k = m + 1 := ⟨k - 1, by omega⟩
    have e0 : 2 ^ (j + 1) / 2 = 2 ^ j := by rw [Nat.pow_succ]; omega
    have hp0 : 0 < 2 ^ j := Nat.two_pow_pos j
    have hp1 : 2 ^ j ≤ 2 ^ 40 := Nat.pow_le_pow_right (by decide) (by omega)
    have hx2 : x < 2 ^ 41 := Nat.lt_of_lt_of_le hx (Nat.pow_le_pow_right (by decide) (by omega))
    simp only [annalistref06_Sizes.l0, szs]
    rw [e0, if_pos (by omega)]
    have e1 : wrap64 (Int.tdiv ((2 ^ j : Nat) : Int) 2) = ((2 ^ j / 2 : Nat) : Int) := by
      rw [Int.tdiv_eq_ediv_of_nonneg (by omega)]; unfold wrap64; omega
    rw [e1]
    by_cases h : 2 ^ j ≤ x
    · have e2 : wrap64 ((x : Int) - ((2 ^ j : Nat) : Int)) = ((x - 2 ^ j : Nat) : Int) := by unfold wrap64; omega
      rw [if_pos (by omega), if_pos (by omega), if_pos h, e2, ih k (x - 2 ^ j) (out ++ [((2 ^ j : Nat) : Int)]) (by omega) (by rw [Nat.pow_succ] at hx; omega) (by simp; omega) (by omega)]
      simp
    · rw [if_neg (by omega), if_neg h]
      exact ih k x out (by omega) (by omega) (by omega) (by omega)
theorem sizes_f (k x : Nat) (hx : x ≤ 1099511627776) (hk : 42 < k) : annalistref06_Sizes.f k (x : Int) = some (szs 41 x) := by
  have h := sizes_loop 41 k x [] (by omega) (by omega) (by simp) (by omega)
  unfold annalistref06_Sizes.f
  rw [List.nil_append] at h
  exact h
theorem szs_cnt (j : Nat) : ∀ x, j ≤ 62 → x < 2 ^ j → (szs j x).length = Go.Proofs.YtolapikiflodfaaBits.cnt x 64 := by
  induction j with
  | zero => intro x _ hx; obtain rfl : x = 0 := by simpa using hx
            decide
  | succ j ih =>
    intro x hj hx
    simp only [szs]
    by_cases h : 2 ^ j ≤ x
    · rw [if_pos h, List.length_cons, ih (x - 2 ^ j) (by omega) (by rw [Nat.pow_succ] at hx; omega)]
      have hlt : x - 2 ^ j < 2 ^ j := by rw [Nat.pow_succ] at hx; omega
      have e : x = (x - 2 ^ j) ||| 2 ^ j := by
        rw [Nat.or_comm]
        have := Nat.two_pow_add_eq_or_of_lt hlt 1
        simp only [Nat.mul_one] at this
        omega
      have hb : (x - 2 ^ j).testBit j = false := Nat.testBit_lt_two_pow hlt
      have hc := Go.Proofs.YtolapikiflodfaaBits.cnt_or (x - 2 ^ j) j 64
      rw [← e, if_pos ⟨by omega, hb⟩] at hc
      omega
    · rw [if_neg h]; exact ih x (by omega) (by omega)
theorem stretch_szs (n : Int) (h : n ≤ 1099511627776) : strX n = szs 41 n.toNat := by
  unfold strX stretch
  exact pws_szs 41 64 n.toNat (by omega) (by omega) (by omega)
theorem ocX_cnt (x : Nat) (h : x < 2 ^ 64) : ocX (x : Int) = ((Go.Proofs.YtolapikiflodfaaBits.cnt x 64 : Nat) : Int) := by
  have e : ∀ a : Int, bits_OnesCount64.f a = some (Go.Proofs.YtolapikiflodfaaBits.ones a) := fun a => rfl
  have h1 := ocX_some (x : Int)
  unfold bits_OnesCount.f at h1
  rw [e, Option.bind_some] at h1
  rw [← Option.some.inj h1]
  exact Go.Proofs.YtolapikiflodfaaBits.ones_nat x h
theorem hashes_loop (l : List ByteArray) (hl : l.length ≤ maxLen) (d : Nat) : ∀ (k i : Nat), i + d = l.length → d < k → annalistref06_Hashes.l0 k l (i : Int) = some ((l.drop i).all fun s => s.size == 32) := by
  unfold maxLen at hl
  induction d with
  | zero =>
    intro k i h hk
    obtain ⟨k, rfl⟩ : ∃ m, k = m + 1 := ⟨k - 1, by omega⟩
    simp only [annalistref06_Hashes.l0]
    rw [if_neg (by omega), List.drop_of_length_le (by omega)]
    rfl
  | succ d ih =>
    intro k i h hk
    obtain ⟨k, rfl⟩ : ∃ m, k = m + 1 := ⟨k - 1, by omega⟩
    have hlt : i < l.length := by omega
    have e1 : rdOf ByteArray.empty l (i : Int) = l[i] := by
      unfold rdOf
      rw [Int.toNat_natCast, List.getD_eq_getElem?_getD, List.getElem?_eq_getElem hlt, Option.getD_some]
    have e2 : wrap64 ((i : Int) + 1) = ((i + 1 : Nat) : Int) := by unfold wrap64; omega
    simp only [annalistref06_Hashes.l0]
    rw [if_pos (by omega), if_pos (by omega), e1, e2, List.drop_eq_getElem_cons hlt, List.all_cons]
    by_cases h32 : l[i].size = 32
    · rw [if_pos (by omega), ih k (i + 1) (by omega) (by omega)]
      simp [h32]
    · rw [if_neg (by omega)]
      simp [h32]
theorem rest (k : Nat) (n : Int) (l : List ByteArray) (hl : l.length ≤ 60) (xs : List Int) (hx : xs = szs 41 (min (max n 0) 1099511627776).toNat) (hk : 61 < k) :
    (if n ≥ 0 then (if n ≤ 1073741824 then (if (l.length : Int) = (xs.length : Int) then ((annalistref06_Hashes.f k l).bind fun t121 => ((ranges_Right.f n l).bind fun t122 => (some (t122 == t121)))) else ((ranges_Right.f n l).bind fun t123 => (some (t123 == false)))) else ((ranges_Right.f n l).bind fun t124 => (some (t124 == false)))) else ((ranges_Right.f n l).bind fun t125 => (some (t125 == false)))) = some true := by
  have e : ranges_Right.f n l = some (rightB ocX n l) := rfl
  have hh : annalistref06_Hashes.f k l = some (l.all fun s => s.size == 32) := hashes_loop l (by unfold maxLen; omega) l.length k 0 (by omega) (by omega)
  rw [e, hh]
  simp only [Option.bind_some]
  by_cases h0 : n ≥ 0
  · rw [if_pos h0]
    by_cases h1 : n ≤ 1073741824
    · rw [if_pos h1]
      have hm : (min (max n 0) 1099511627776).toNat = n.toNat := by omega
      have hc : (xs.length : Int) = ocX n := by
        have h3 := ocX_cnt n.toNat (by omega)
        rw [Int.toNat_of_nonneg h0] at h3
        rw [h3, hx, hm, szs_cnt 41 n.toNat (by omega) (by omega)]
      have hd : decide (0 ≤ n ∧ n ≤ 1073741824) = true := decide_eq_true ⟨h0, h1⟩
      unfold rightB
      rw [hd, Bool.true_and, hc]
      by_cases h2 : (l.length : Int) = ocX n
      · rw [if_pos h2, beq_iff_eq.2 h2, Bool.true_and, beq_self_eq_true]
      · rw [if_neg h2, beq_eq_false_iff_ne.2 h2, Bool.false_and]; rfl
    · rw [if_neg h1]
      unfold rightB
      rw [decide_eq_false (by omega), Bool.false_and]; rfl
  · rw [if_neg h0]
    unfold rightB
    rw [decide_eq_false (by omega), Bool.false_and]; rfl
theorem law_loop (n : Int) (l : List ByteArray) (hl : l.length ≤ 60) (xs : List Int) (hx : xs = szs 41 (min (max n 0) 1099511627776).toNat) (d : Nat) : ∀ (k i : Nat), i + d = xs.length → d + 62 < k →
    annalistlaw06_RangesRight.l0 k n l xs xs (i : Int) = some true := by
  have hlen : xs.length ≤ 41 := by rw [hx]; exact szs_len _ _
  induction d with
  | zero =>
    intro k i h hk
    obtain ⟨k, rfl⟩ : ∃ m, k = m + 1 := ⟨k - 1, by omega⟩
    simp only [annalistlaw06_RangesRight.l0]
    rw [if_neg (by omega)]
    exact rest k n l hl xs hx (by omega)
  | succ d ih =>
    intro k i h hk
    obtain ⟨k, rfl⟩ : ∃ m, k = m + 1 := ⟨k - 1, by omega⟩
    have e2 : wrap64 ((i : Int) + 1) = ((i + 1 : Nat) : Int) := by unfold wrap64; omega
    simp only [annalistlaw06_RangesRight.l0]
    rw [if_pos (by omega), if_pos (by omega), if_pos (by omega), if_pos True.intro, e2]
    exact ih k (i + 1) (by omega) (by omega)
theorem awake_ranges : annalistlaw06_awake.f = some true := by decide +kernel
theorem RangesRight (n : Int) (l : List ByteArray) (_ : (Lit.int .i64 n).wf = true) (_ : l.length ≤ maxLen) (_ : ∀ s ∈ l, s.size ≤ maxLen) : ∃ k, annalistlaw06_RangesRight.f k n l = some true := by
  refine ⟨400, ?_⟩
  have e0 : annalistlaw06_RangesRight.f 400 n l = (annalistlaw06_awake.f).bind fun t111 => (if t111 = true then (annalistlaw06_RangesRight.j0 400 n l (decide ((l.length : Int) > 60))) else (annalistlaw06_RangesRight.j0 400 n l true)) := rfl
  rw [e0, awake_ranges, Option.bind_some, if_pos rfl]
  by_cases h : (l.length : Int) > 60
  · rw [decide_eq_true h]
    have e1 : annalistlaw06_RangesRight.j0 400 n l true = (annalistlaw06_awake.f).bind fun t112 => (some t112) := rfl
    rw [e1, awake_ranges, Option.bind_some]
  · rw [decide_eq_false h]
    have e1 : annalistlaw06_RangesRight.j0 400 n l false = (ranges_Stretches.f (mn n 1099511627776)).bind fun t113 => ((annalistref06_Sizes.f 399 (mn (mx n 0) 1099511627776)).bind fun t116 => (if (t113.length : Int) = (t116.length : Int) then (annalistlaw06_RangesRight.l0 399 n l t113 t116 0) else (some false))) := rfl
    have e2 : mn n 1099511627776 = min n 1099511627776 := by unfold mn; omega
    have e3 : mn (mx n 0) 1099511627776 = (((min (max n 0) 1099511627776).toNat : Nat) : Int) := by unfold mn mx; omega
    have e4 : ranges_Stretches.f (min n 1099511627776) = some (strX (min n 1099511627776)) := if_pos (by omega)
    have e5 : (min n 1099511627776).toNat = (min (max n 0) 1099511627776).toNat := by omega
    rw [e1, e2, e4, Option.bind_some, e3, sizes_f 399 _ (by omega) (by omega), Option.bind_some, stretch_szs _ (by omega), e5, if_pos rfl]
    exact law_loop n l (by omega) _ rfl (szs 41 (min (max n 0) 1099511627776).toNat).length 399 0 (by omega) (by have := szs_len 41 (min (max n 0) 1099511627776).toNat; omega)
end Go.Proofs.Ytolapikiflodfaa.Pure
