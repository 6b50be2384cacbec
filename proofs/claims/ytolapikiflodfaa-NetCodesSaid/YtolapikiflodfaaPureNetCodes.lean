import Derived.Test.YtolapikiflodfaaQNetCodesx14
namespace Go.Proofs.Ytolapikiflodfaa.Pure
open Go.RowKit Go.Proofs.Ytolapikiflodfaa.PNetCodes Go.Proofs.YtolapikiflodfaaW.PrintWords Go.Proofs.YtolapikiflodfaaW.PrintLast

theorem nr_w (a : Int) (h0 : 0 ≤ a) (h1 : a ≤ 9223372036854775807) : wrap64 a = a := by unfold wrap64; omega
theorem nr_divs (p q r s : Nat) (hp : p < 256) (hq : q < 256) (hr : r < 256) (hs : s < 256) :
    (((((p * 256 + q) * 256 + r) * 256 + s : Nat) : Int) / 16777216) % 256 = p ∧ (((((p * 256 + q) * 256 + r) * 256 + s : Nat) : Int) / 65536) % 256 = q ∧
    (((((p * 256 + q) * 256 + r) * 256 + s : Nat) : Int) / 256) % 256 = r ∧ ((((p * 256 + q) * 256 + r) * 256 + s : Nat) : Int) % 256 = s := by
  refine ⟨by omega, by omega, by omega, by omega⟩
theorem nr_num (n : Int) (h0 : 0 ≤ n) (h1 : n ≤ 2147483647) : num4 n = strOfNums [(n / 16777216) % 256, (n / 65536) % 256, (n / 256) % 256, n % 256] := by
  have e : annalistref02_Number.f n = some (strOfNums [(n / 16777216) % 256, (n / 65536) % 256, (n / 256) % 256, n % 256]) := by
    unfold annalistref02_Number.f
    rw [if_neg (by omega), if_neg (by omega)]
    rw [Int.tdiv_eq_ediv_of_nonneg h0, Int.tdiv_eq_ediv_of_nonneg h0, Int.tdiv_eq_ediv_of_nonneg h0, Int.tmod_eq_emod_of_nonneg h0]
    rw [nr_w (n / 16777216) (by omega) (by omega), nr_w (n / 65536) (by omega) (by omega), nr_w (n / 256) (by omega) (by omega)]
    rw [Int.tmod_eq_emod_of_nonneg (show (0 : Int) ≤ n / 65536 by omega), Int.tmod_eq_emod_of_nonneg (show (0 : Int) ≤ n / 256 by omega)]
    rw [Int.emod_emod, Int.emod_emod, Int.emod_emod]
  unfold num4
  rw [e, Option.getD_some]
theorem nr_bt (t : ByteArray) (i : Nat) (h : i < t.size) : bt t (i : Int) = (t[i].toNat : Int) := (bt_at t (i : Int) (by rw [Int.toNat_natCast]; exact h)).symm
theorem nr_byte (x : UInt8) : UInt8.ofNat ((x.toNat : Int)).toNat = x := by rw [Int.toNat_natCast, UInt8.ofNat_toNat]
/-- a number that is no −1 is the number of its four bytes -/
theorem nr_four (t : ByteArray) (h4 : 4 ≤ t.size) (hl : lim (be4 t) ≠ -1) : num4 (lim (be4 t)) = t.extract 0 4 ∧ 0 ≤ lim (be4 t) ∧ lim (be4 t) ≤ 2147483647 := by
  have e : be4 t = (((((t[0]'(by omega)).toNat * 256 + (t[1]'(by omega)).toNat) * 256 + (t[2]'(by omega)).toNat) * 256 + (t[3]'(by omega)).toNat : Nat) : Int) := by
    unfold be4
    rw [show bt t 0 = _ from nr_bt t 0 (by omega), show bt t 1 = _ from nr_bt t 1 (by omega), show bt t 2 = _ from nr_bt t 2 (by omega), show bt t 3 = _ from nr_bt t 3 (by omega)]
    omega
  have hh : ¬ be4 t > 2147483647 := fun hc => hl (by unfold lim; rw [if_pos hc])
  have hq : lim (be4 t) = be4 t := by unfold lim; rw [if_neg hh]
  rw [hq]
  have b0 := (t[0]'(by omega)).toNat_lt
  have b1 := (t[1]'(by omega)).toNat_lt
  have b2 := (t[2]'(by omega)).toNat_lt
  have b3 := (t[3]'(by omega)).toNat_lt
  have d := nr_divs _ _ _ _ b0 b1 b2 b3
  rw [← e] at d
  have hn : 0 ≤ be4 t := by rw [e]; exact Int.natCast_nonneg _
  refine ⟨?_, hn, by omega⟩
  rw [nr_num _ hn (by omega), d.1, d.2.1, d.2.2.1, d.2.2.2]
  refine ByteArray.ext_getElem ?_ ?_
  · rw [strOfNums_size, ByteArray.size_extract]
    simp only [List.length_cons, List.length_nil]
    omega
  · intro i hi hi'
    rw [ByteArray.getElem_extract]
    rw [strOfNums_size] at hi
    match i, hi with
    | 0, _ => exact nr_byte _
    | 1, _ => exact nr_byte _
    | 2, _ => exact nr_byte _
    | 3, _ => exact nr_byte _
theorem nr_at (b : ByteArray) (i : Nat) (h : 1 + 4 * i + 4 ≤ b.size) (hl : numAt b i ≠ -1) : num4 (numAt b i) = b.extract (1 + 4 * i) (1 + 4 * i + 4) ∧ 0 ≤ numAt b i ∧ numAt b i ≤ 2147483647 := by
  have k := nr_four (tailAt b (1 + 4 * i)) (by unfold tailAt; rw [ByteArray.size_extract]; omega) hl
  refine ⟨k.1.trans ?_, k.2⟩
  unfold tailAt
  rw [ByteArray.extract_extract, Nat.add_zero, Nat.min_eq_left h]
theorem nr_pre (b : ByteArray) (f : Nat → Int) (n : Nat) (hb : 1 + 4 * n ≤ b.size) (hf : ∀ i, i < n → num4 (f i) = b.extract (1 + 4 * i) (1 + 4 * i + 4)) (h0 : b.extract 0 1 = ⟨#[77]⟩) :
    pre22 f n = b.extract 0 (1 + 4 * n) := by
  induction n with
  | zero => exact h0.symm
  | succ n ih =>
    rw [pre22, ih (by omega) fun i hi => hf i (by omega), hf n (by omega), ByteArray.extract_append_extract, Nat.min_eq_left (by omega), Nat.max_eq_right (by omega)]
    rfl
theorem nr_all (f : Nat → Int) (n : Nat) (hf : ∀ i, i < n → 0 ≤ f i ∧ f i ≤ 2147483647) : all22 f n = true := by
  induction n with
  | zero => rfl
  | succ n ih =>
    rw [all22, ih fun i hi => hf i (by omega), Bool.true_and]
    have := hf n (by omega)
    unfold fine22
    rw [decide_eq_true this.1, decide_eq_true this.2]; rfl
theorem nr_six (f : Nat → Int) : ∀ i, i < 6 → six (f 0) (f 1) (f 2) (f 3) (f 4) (f 5) i = f i := by
  intro i hi
  rcases i with _ | _ | _ | _ | _ | _ | i
  all_goals first | rfl | (exfalso; omega)
theorem nr_list (b : ByteArray) (h : (b.toList == [77]) = true) : b = ⟨#[77]⟩ := by
  have e := beq_iff_eq.1 h
  rw [ByteArray.toList_eq] at e
  cases b with | mk d => cases d with | mk l => exact congrArg (fun l => ByteArray.mk (Array.mk l)) e

theorem nr_join (b : ByteArray) (h : 29 ≤ b.size) : b.extract 0 (1 + 4 * 6) ++ (b.extract (1 + 4 * 6) (1 + 4 * 6 + 4) ++ b.extract 29 b.size) = b := by
  rw [show b.extract 29 b.size = b.extract (1 + 4 * 6 + 4) b.size from rfl]
  rw [ByteArray.extract_append_extract, Nat.min_eq_left (by omega), Nat.max_eq_right (by omega), ByteArray.extract_append_extract, Nat.min_eq_left (by omega), Nat.max_eq_right (by omega), ByteArray.extract_zero_size]

/-- a number as its four bytes keep it -/
def cl (a : Int) : Int := if 0 ≤ a ∧ a ≤ 2147483647 then a else 0
theorem cl_in (a : Int) : 0 ≤ cl a ∧ cl a ≤ 2147483647 := by
  unfold cl
  split <;> omega
theorem cl_fine (a : Int) (h : fine22 a = true) : cl a = a := by
  unfold fine22 at h
  rw [Bool.and_eq_true, decide_eq_true_eq, decide_eq_true_eq] at h
  exact if_pos h
theorem fine_cl (a : Int) : fine22 (cl a) = true := by
  unfold fine22
  rw [decide_eq_true (cl_in a).1, decide_eq_true (cl_in a).2]; rfl
theorem num4_zero : num4 0 = strOfNums [0, 0, 0, 0] := by
  rw [nr_num 0 (by omega) (by omega)]
  simp
theorem num4_out (a : Int) (h : ¬ (0 ≤ a ∧ a ≤ 2147483647)) : num4 a = strOfNums [0, 0, 0, 0] := by
  have e : annalistref02_Number.f a = some (strOfNums [0, 0, 0, 0]) := by
    unfold annalistref02_Number.f
    by_cases h1 : a < 0
    · rw [if_pos h1]; simp
    · rw [if_neg h1, if_pos (by omega)]; simp
  unfold num4
  rw [e, Option.getD_some]
theorem num4_cl (a : Int) : num4 (cl a) = num4 a := by
  unfold cl
  by_cases h : 0 ≤ a ∧ a ≤ 2147483647
  · rw [if_pos h]
  · rw [if_neg h, num4_zero, num4_out a h]
theorem wire_num (a : Int) : wire_Number.f a = some (num4 a) := by
  by_cases h : 0 ≤ a ∧ a ≤ 2147483647
  · rw [nr_num a h.1 h.2]
    unfold wire_Number.f
    rw [if_neg (by omega), if_neg (by omega)]
  · rw [num4_out a h]
    unfold wire_Number.f
    by_cases h1 : a < 0
    · rw [if_pos h1]; simp
    · rw [if_neg h1, if_pos (by omega)]; simp
theorem byte_of (n : Int) (h : 0 ≤ n ∧ n ≤ 255) : ((UInt8.ofNat n.toNat).toNat : Int) = n := by
  rw [UInt8.toNat_ofNat']
  omega
theorem four_bytes (p q r s : Int) (S : ByteArray) (hp : 0 ≤ p ∧ p ≤ 255) (hq : 0 ≤ q ∧ q ≤ 255) (hr : 0 ≤ r ∧ r ≤ 255) (hs : 0 ≤ s ∧ s ≤ 255) : be4 (strOfNums [p, q, r, s] ++ S) = ((p * 256 + q) * 256 + r) * 256 + s := by
  have sz : (strOfNums [p, q, r, s]).size = 4 := rfl
  have at_ (i : Nat) (hi : i < 4) : bt (strOfNums [p, q, r, s] ++ S) (i : Int) = (((strOfNums [p, q, r, s])[i]'(by rw [sz]; exact hi)).toNat : Int) := by
    rw [nr_bt _ i (by rw [ByteArray.size_append, sz]; omega), ByteArray.getElem_append_left (by rw [sz]; exact hi)]
  unfold be4
  rw [show bt (strOfNums [p, q, r, s] ++ S) 0 = _ from at_ 0 (by omega), show bt (strOfNums [p, q, r, s] ++ S) 1 = _ from at_ 1 (by omega), show bt (strOfNums [p, q, r, s] ++ S) 2 = _ from at_ 2 (by omega), show bt (strOfNums [p, q, r, s] ++ S) 3 = _ from at_ 3 (by omega)]
  rw [show ((strOfNums [p, q, r, s])[0]'(by rw [sz]; omega)) = UInt8.ofNat p.toNat from rfl, show ((strOfNums [p, q, r, s])[1]'(by rw [sz]; omega)) = UInt8.ofNat q.toNat from rfl, show ((strOfNums [p, q, r, s])[2]'(by rw [sz]; omega)) = UInt8.ofNat r.toNat from rfl, show ((strOfNums [p, q, r, s])[3]'(by rw [sz]; omega)) = UInt8.ofNat s.toNat from rfl]
  rw [byte_of p hp, byte_of q hq, byte_of r hr, byte_of s hs]
theorem sum_divs (n : Int) (h0 : 0 ≤ n) (h1 : n ≤ 2147483647) : (((n / 16777216) % 256 * 256 + (n / 65536) % 256) * 256 + (n / 256) % 256) * 256 + n % 256 = n := by omega
theorem be4_num (a : Int) (S : ByteArray) : lim (be4 (num4 a ++ S)) = cl a := by
  rw [← num4_cl a]
  have h := cl_in a
  generalize cl a = n at h
  rw [nr_num n h.1 h.2, four_bytes _ _ _ _ S (by omega) (by omega) (by omega) (by omega), sum_divs n h.1 h.2]
  unfold lim
  rw [if_neg (by omega)]
theorem tail_of (a S : ByteArray) (n : Nat) (h : a.size = n) : tailAt (a ++ S) n = S := by
  unfold tailAt
  exact ByteArray.extract_append_eq_right h.symm (by rw [ByteArray.size_append])
theorem pre_at (f : Nat → Int) (i n : Nat) (h : i < n) : ∀ R : ByteArray, ∃ S, pre22 f n ++ R = pre22 f i ++ (num4 (f i) ++ S) := by
  induction n with
  | zero => omega
  | succ n ih =>
    intro R
    rw [pre22, ByteArray.append_assoc]
    rcases Nat.lt_or_ge i n with h1 | h1
    · exact ih h1 _
    · obtain rfl : i = n := by omega
      exact ⟨R, rfl⟩
theorem pre_head (f : Nat → Int) (n : Nat) : ∃ S, pre22 f n = (⟨#[77]⟩ : ByteArray) ++ S := by
  induction n with
  | zero => exact ⟨⟨#[]⟩, rfl⟩
  | succ n ih =>
    obtain ⟨S, hS⟩ := ih
    exact ⟨S ++ num4 (f n), by rw [pre22, hS, ByteArray.append_assoc]⟩
theorem num_at (f : Nat → Int) (i n : Nat) (h : i < n) (R : ByteArray) : numAt (pre22 f n ++ R) i = cl (f i) := by
  obtain ⟨S, hS⟩ := pre_at f i n h R
  unfold numAt
  rw [hS, tail_of _ _ _ (pre22_size f i), be4_num]
/-- a letter's bytes -/
def msg (f : Nat → Int) (s : ByteArray) : ByteArray := pre22 f 6 ++ (num4 s.size ++ s)
theorem msg_size (f : Nat → Int) (s : ByteArray) : (msg f s).size = 29 + s.size := by
  unfold msg
  rw [ByteArray.size_append, ByteArray.size_append, pre22_size, num4_size]; omega
theorem msg_rest (f : Nat → Int) (s : ByteArray) : (msg f s).extract 29 (msg f s).size = s := by
  unfold msg
  rw [← ByteArray.append_assoc]
  exact tail_of _ _ _ (by rw [ByteArray.size_append, pre22_size, num4_size])
theorem msg_num (f : Nat → Int) (s : ByteArray) (i : Nat) (h : i < 6) : numAt (msg f s) i = cl (f i) := num_at f i 6 h _
theorem msg_len (f : Nat → Int) (s : ByteArray) (h : s.size ≤ 1100) : numAt (msg f s) 6 = s.size := by
  unfold msg numAt
  rw [tail_of _ _ _ (pre22_size f 6), be4_num]
  unfold cl
  rw [if_pos (by omega)]
theorem msg_head (f : Nat → Int) (s : ByteArray) : (((msg f s).extract 0 1).toList == [77]) = true := by
  obtain ⟨S, hS⟩ := pre_head f 6
  unfold msg
  rw [hS, ByteArray.append_assoc, show ∀ X : ByteArray, ((⟨#[77]⟩ : ByteArray) ++ X).extract 0 1 = ⟨#[77]⟩ from fun X => ByteArray.extract_append_eq_left rfl, ByteArray.toList_eq]; rfl
theorem msg_has (f : Nat → Int) (s : ByteArray) (h : s.size ≤ 1100) : has7 (msg f s) = false := by
  unfold has7
  rw [Bool.eq_false_iff]
  intro hc
  obtain ⟨i, hi, he⟩ := List.any_eq_true.1 hc
  have hi7 := List.mem_range.1 hi
  have he2 := beq_iff_eq.1 he
  rcases Nat.lt_or_ge i 6 with h1 | h1
  · rw [msg_num f s i h1] at he2
    have := cl_in (f i)
    omega
  · obtain rfl : i = 6 := by omega
    rw [msg_len f s h] at he2
    omega
theorem msg_letter (f : Nat → Int) (s : ByteArray) (h : s.size ≤ 1100) : isLetter (msg f s) = true ↔ s.size ≤ 1000 := by
  rw [isLetter_iff, msg_size]
  constructor
  · rintro ⟨_, _, _, h1⟩; omega
  · intro h1
    exact ⟨⟨by omega, msg_head f s⟩, msg_has f s h, by rw [msg_len f s h]; omega, by omega⟩
theorem msg_dec (f : Nat → Int) (s : ByteArray) (h : s.size ≤ 1100) : net_Decode.f (msg f s) = some (if s.size ≤ 1000 then (cl (f 0), cl (f 1), cl (f 2), cl (f 3), cl (f 4), cl (f 5), s, 0) else (0, 0, 0, 0, 0, 0, (⟨#[]⟩ : ByteArray), 2)) := by
  unfold net_Decode.f
  by_cases c : s.size ≤ 1000
  · rw [if_pos c, if_pos ((msg_letter f s h).2 c), msg_rest, msg_num f s 0 (by omega), msg_num f s 1 (by omega), msg_num f s 2 (by omega), msg_num f s 3 (by omega), msg_num f s 4 (by omega), msg_num f s 5 (by omega)]
  · rw [if_neg c, if_neg fun hc => c ((msg_letter f s h).1 hc)]
theorem bytes_eq (a0 a1 a2 a3 a4 a5 : Int) (s : ByteArray) (h : s.size ≤ 1100) : annalistref22_Bytes.f a0 a1 a2 a3 a4 a5 s = some (msg (six a0 a1 a2 a3 a4 a5) s) := by
  unfold annalistref22_Bytes.f
  rw [if_pos (by omega)]; rfl
theorem text_eq (s : ByteArray) (h : s.size ≤ 1100) : wire_Text.f s = some (num4 s.size ++ s) := by
  unfold wire_Text.f
  rw [wire_num, Option.bind_some, if_pos (by rw [num4_size]; omega)]
theorem enc_loop (f : Nat → Int) (xs : List Int) (hl : xs.length = 6) (hx : ∀ i, i < 6 → rd xs (i : Nat) = f i) (a0 a1 a2 a3 a4 a5 : Int) (s : ByteArray) (h : s.size ≤ 1100) (d : Nat) : ∀ i, i + d = 6 → net_Encode.l0 (d + 1) (pre22 f i) xs (xs.length : Int) (i : Int) a0 a1 a2 a3 a4 a5 s = some (msg f s) := by
  induction d with
  | zero =>
    intro i hi
    obtain rfl : i = 6 := by omega
    rw [net_Encode.l0, if_neg (by omega), text_eq s h, Option.bind_some, if_pos (by rw [ByteArray.size_append, pre22_size, num4_size]; omega)]
    rfl
  | succ d ih =>
    intro i hi
    rw [net_Encode.l0, if_pos (by omega), if_pos (by omega), if_pos (by omega), wire_num, Option.bind_some, if_pos (by rw [pre22_size, num4_size]; omega), hx i (by omega)]
    rw [show wrap64 ((i : Int) + 1) = ((i + 1 : Nat) : Int) by unfold wrap64; omega]
    exact ih (i + 1) (by omega)
theorem enc_eq (a0 a1 a2 a3 a4 a5 : Int) (s : ByteArray) (h : s.size ≤ 1100) : net_Encode.f 7 a0 a1 a2 a3 a4 a5 s = some (msg (six a0 a1 a2 a3 a4 a5) s) := by
  unfold net_Encode.f
  rw [Option.bind_some]
  refine enc_loop (six a0 a1 a2 a3 a4 a5) _ rfl ?_ a0 a1 a2 a3 a4 a5 s h 6 0 rfl
  intro i hi
  rcases i with _ | _ | _ | _ | _ | _ | i
  all_goals first | rfl | (exfalso; omega)
theorem all_cl (a0 a1 a2 a3 a4 a5 : Int) : all22 (six (cl a0) (cl a1) (cl a2) (cl a3) (cl a4) (cl a5)) 6 = true := by
  show ((((((true && fine22 (cl a0)) && fine22 (cl a1)) && fine22 (cl a2)) && fine22 (cl a3)) && fine22 (cl a4)) && fine22 (cl a5)) = true
  rw [fine_cl, fine_cl, fine_cl, fine_cl, fine_cl, fine_cl]; rfl
theorem all_fine {a0 a1 a2 a3 a4 a5 : Int} (h : all22 (six a0 a1 a2 a3 a4 a5) 6 = true) : cl a0 = a0 ∧ cl a1 = a1 ∧ cl a2 = a2 ∧ cl a3 = a3 ∧ cl a4 = a4 ∧ cl a5 = a5 := by
  have h' : ((((((true && fine22 a0) && fine22 a1) && fine22 a2) && fine22 a3) && fine22 a4) && fine22 a5) = true := h
  simp only [Bool.and_eq_true] at h'
  obtain ⟨⟨⟨⟨⟨⟨_, h0⟩, h1⟩, h2⟩, h3⟩, h4⟩, h5⟩ := h'
  exact ⟨cl_fine _ h0, cl_fine _ h1, cl_fine _ h2, cl_fine _ h3, cl_fine _ h4, cl_fine _ h5⟩
theorem msg_cl (a0 a1 a2 a3 a4 a5 : Int) (s : ByteArray) : msg (six (cl a0) (cl a1) (cl a2) (cl a3) (cl a4) (cl a5)) s = msg (six a0 a1 a2 a3 a4 a5) s := by
  have e : pre22 (six (cl a0) (cl a1) (cl a2) (cl a3) (cl a4) (cl a5)) 6 = pre22 (six a0 a1 a2 a3 a4 a5) 6 := by
    show ((((((⟨#[77]⟩ : ByteArray) ++ num4 (cl a0)) ++ num4 (cl a1)) ++ num4 (cl a2)) ++ num4 (cl a3)) ++ num4 (cl a4)) ++ num4 (cl a5) = _
    rw [num4_cl, num4_cl, num4_cl, num4_cl, num4_cl, num4_cl]; rfl
  unfold msg
  rw [e]
theorem j_eq (a0 a1 a2 a3 a4 a5 : Int) (s : ByteArray) : annalistlaw22_NetCodes.j0 8 (decide ((s.size : Int) > 1100)) a0 a1 a2 a3 a4 a5 s = some true := by
  rw [annalistlaw22_NetCodes.j0]
  by_cases hs : s.size ≤ 1100
  · rw [if_neg (by rw [decide_eq_true_eq]; omega), enc_eq _ _ _ _ _ _ s hs, Option.bind_some, msg_dec _ s hs, Option.bind_some, bytes_eq _ _ _ _ _ _ s hs, Option.bind_some, if_pos rfl]
    unfold annalistref22_Right.f
    rw [Option.bind_some]
    by_cases c : s.size ≤ 1000
    · rw [if_pos c]
      by_cases ha : all22 (six a0 a1 a2 a3 a4 a5) 6 = true
      · rw [ha, decide_eq_true (show (s.size : Int) ≤ 1000 by omega), if_pos rfl, if_pos rfl]
        obtain ⟨e0, e1, e2, e3, e4, e5⟩ := all_fine ha
        show some (cl a0 == a0 && (cl a1 == a1 && (cl a2 == a2 && (cl a3 == a3 && (cl a4 == a4 && (cl a5 == a5 && (s.toList == s.toList))))))) = some true
        rw [e0, e1, e2, e3, e4, e5, beq_self_eq_true, beq_self_eq_true, beq_self_eq_true, beq_self_eq_true, beq_self_eq_true, beq_self_eq_true, beq_self_eq_true]; rfl
      · rw [Bool.eq_false_iff.2 ha, Bool.false_and, if_neg Bool.false_ne_true, if_neg (by decide : ¬ ((0 : Int) = 2)), if_pos rfl]
        show ((annalistref22_Bytes.f (cl a0) (cl a1) (cl a2) (cl a3) (cl a4) (cl a5) s).bind _) = some true
        rw [bytes_eq _ _ _ _ _ _ s hs, Option.bind_some, msg_cl, if_pos rfl]
        show (some (all22 (six (cl a0) (cl a1) (cl a2) (cl a3) (cl a4) (cl a5)) 6 && decide ((s.size : Int) ≤ 1000))).bind _ = some true
        rw [all_cl, decide_eq_true (show (s.size : Int) ≤ 1000 by omega), Option.bind_some]; rfl
    · rw [if_neg c, decide_eq_false (show ¬ (s.size : Int) ≤ 1000 by omega), Bool.and_false, if_neg Bool.false_ne_true, if_pos rfl]
      rw [if_pos]
      show (true && (true && (true && (true && (true && (true && ((⟨#[]⟩ : ByteArray).toList == []))))))) = true
      rw [ByteArray.toList_eq]; rfl
  · rw [if_pos (by rw [decide_eq_true_eq]; omega)]; rfl
theorem NetCodes (a0 a1 a2 a3 a4 a5 : Int) (s : ByteArray) : ∃ k, annalistlaw22_NetCodes.f k a0 a1 a2 a3 a4 a5 s = some true := by
  refine ⟨8, ?_⟩
  unfold annalistlaw22_NetCodes.f annalistlaw22_awake.f
  rw [Option.bind_some, if_pos rfl]
  exact j_eq a0 a1 a2 a3 a4 a5 s
end Go.Proofs.Ytolapikiflodfaa.Pure
