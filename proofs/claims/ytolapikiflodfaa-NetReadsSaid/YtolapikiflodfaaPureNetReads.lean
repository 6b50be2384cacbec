import Derived.Test.YtolapikiflodfaaQNetReadsx14
namespace Go.Proofs.Ytolapikiflodfaa.Pure
open Go.RowKit Go.Proofs.Ytolapikiflodfaa.PNetReads Go.Proofs.YtolapikiflodfaaW.PrintWords Go.Proofs.YtolapikiflodfaaW.PrintLast

theorem nr_w (a : Int) (h0 : 0 ≤ a) (h1 : a ≤ 9223372036854775807) : wrap64 a = a := by unfold wrap64; omega
theorem nr_divs (p q r s : Nat) (hp : p < 256) (hq : q < 256) (hr : r < 256) (hs : s < 256) :
    (((((p * 256 + q) * 256 + r) * 256 + s : Nat) : Int) / 16777216) % 256 = p ∧ (((((p * 256 + q) * 256 + r) * 256 + s : Nat) : Int) / 65536) % 256 = q ∧
    (((((p * 256 + q) * 256 + r) * 256 + s : Nat) : Int) / 256) % 256 = r ∧ ((((p * 256 + q) * 256 + r) * 256 + s : Nat) : Int) % 256 = s := by
  refine ⟨by omega, by omega, by omega, by omega⟩
theorem nr_num (n : Int) (h0 : 0 ≤ n) (h1 : n ≤ 2147483647) : num4 n = strOfNums [(n / 16777216) % 256, (n / 65536) % 256, (n / 256) % 256, n % 256] := by
  have e : annalistref02_Number.f n = some (strOfNums [(n / 16777216) % 256, (n / 65536) % 256, (n / 256) % 256, n % 256]) := by
    unfold annalistref02_Number.f
    rw [if_neg (by omega), if_neg (by omega)]
    rw [Int.tdiv_eq_ediv_of_nonneg h0, Int.tdiv_eq_ediv_of_nonneg h0, Int.tdiv_eq_ediv_of_nonneg h0, Int.tmod_eq_emod_of_nonneg h0]
    rw [nr_w (n / 16777216) (by omega) (by omega), nr_w (n / 65536) (by omega) (by omega), nr_w (n / 256) (by omega) (by omega)]
    rw [Int.tmod_eq_emod_of_nonneg (show (0 : Int) ≤ n / 65536 by omega), Int.tmod_eq_emod_of_nonneg (show (0 : Int) ≤ n / 256 by omega)]
    rw [Int.emod_emod, Int.emod_emod, Int.emod_emod]
  unfold num4
  rw [e, Option.getD_some]
theorem nr_bt (t : ByteArray) (i : Nat) (h : i < t.size) : bt t (i : Int) = (t[i].toNat : Int) := (bt_at t (i : Int) (by rw [Int.toNat_natCast]; exact h)).symm
theorem nr_byte (x : UInt8) : UInt8.ofNat ((x.toNat : Int)).toNat = x := by rw [Int.toNat_natCast, UInt8.ofNat_toNat]
/-- a number that is no −1 is the number of its four bytes -/
theorem nr_four (t : ByteArray) (h4 : 4 ≤ t.size) (hl : lim (be4 t) ≠ -1) : num4 (lim (be4 t)) = t.extract 0 4 ∧ 0 ≤ lim (be4 t) ∧ lim (be4 t) ≤ 2147483647 := by
  have e : be4 t = (((((t[0]'(by omega)).toNat * 256 + (t[1]'(by omega)).toNat) * 256 + (t[2]'(by omega)).toNat) * 256 + (t[3]'(by omega)).toNat : Nat) : Int) := by
    unfold be4
    rw [show bt t 0 = _ from nr_bt t 0 (by omega), show bt t 1 = _ from nr_bt t 1 (by omega), show bt t 2 = _ from nr_bt t 2 (by omega), show bt t 3 = _ from nr_bt t 3 (by omega)]
    omega
  have hh : ¬ be4 t > 2147483647 := fun hc => hl (by unfold lim; rw [if_pos hc])
  have hq : lim (be4 t) = be4 t := by unfold lim; rw [if_neg hh]
  rw [hq]
  have b0 := (t[0]'(by omega)).toNat_lt
  have b1 := (t[1]'(by omega)).toNat_lt
  have b2 := (t[2]'(by omega)).toNat_lt
  have b3 := (t[3]'(by omega)).toNat_lt
  have d := nr_divs _ _ _ _ b0 b1 b2 b3
  rw [← e] at d
  have hn : 0 ≤ be4 t := by rw [e]; exact Int.natCast_nonneg _
  refine ⟨?_, hn, by omega⟩
  rw [nr_num _ hn (by omega), d.1, d.2.1, d.2.2.1, d.2.2.2]
  refine ByteArray.ext_getElem ?_ ?_
  · rw [strOfNums_size, ByteArray.size_extract]
    simp only [List.length_cons, List.length_nil]
    omega
  · intro i hi hi'
    rw [ByteArray.getElem_extract]
    rw [strOfNums_size] at hi
    match i, hi with
    | 0, _ => exact nr_byte _
    | 1, _ => exact nr_byte _
    | 2, _ => exact nr_byte _
    | 3, _ => exact nr_byte _
theorem nr_at (b : ByteArray) (i : Nat) (h : 1 + 4 * i + 4 ≤ b.size) (hl : numAt b i ≠ -1) : num4 (numAt b i) = b.extract (1 + 4 * i) (1 + 4 * i + 4) ∧ 0 ≤ numAt b i ∧ numAt b i ≤ 2147483647 := by
  have k := nr_four (tailAt b (1 + 4 * i)) (by unfold tailAt; rw [ByteArray.size_extract]; omega) hl
  refine ⟨k.1.trans ?_, k.2⟩
  unfold tailAt
  rw [ByteArray.extract_extract, Nat.add_zero, Nat.min_eq_left h]
theorem nr_pre (b : ByteArray) (f : Nat → Int) (n : Nat) (hb : 1 + 4 * n ≤ b.size) (hf : ∀ i, i < n → num4 (f i) = b.extract (1 + 4 * i) (1 + 4 * i + 4)) (h0 : b.extract 0 1 = ⟨#[77]⟩) :
    pre22 f n = b.extract 0 (1 + 4 * n) := by
  induction n with
  | zero => exact h0.symm
  | succ n ih =>
    rw [pre22, ih (by omega) fun i hi => hf i (by omega), hf n (by omega), ByteArray.extract_append_extract, Nat.min_eq_left (by omega), Nat.max_eq_right (by omega)]
    rfl
theorem nr_all (f : Nat → Int) (n : Nat) (hf : ∀ i, i < n → 0 ≤ f i ∧ f i ≤ 2147483647) : all22 f n = true := by
  induction n with
  | zero => rfl
  | succ n ih =>
    rw [all22, ih fun i hi => hf i (by omega), Bool.true_and]
    have := hf n (by omega)
    unfold fine22
    rw [decide_eq_true this.1, decide_eq_true this.2]; rfl
theorem nr_six (f : Nat → Int) : ∀ i, i < 6 → six (f 0) (f 1) (f 2) (f 3) (f 4) (f 5) i = f i := by
  intro i hi
  rcases i with _ | _ | _ | _ | _ | _ | i
  all_goals first | rfl | (exfalso; omega)
theorem nr_list (b : ByteArray) (h : (b.toList == [77]) = true) : b = ⟨#[77]⟩ := by
  have e := beq_iff_eq.1 h
  rw [ByteArray.toList_eq] at e
  cases b with | mk d => cases d with | mk l => exact congrArg (fun l => ByteArray.mk (Array.mk l)) e

theorem nr_join (b : ByteArray) (h : 29 ≤ b.size) : b.extract 0 (1 + 4 * 6) ++ (b.extract (1 + 4 * 6) (1 + 4 * 6 + 4) ++ b.extract 29 b.size) = b := by
  rw [show b.extract 29 b.size = b.extract (1 + 4 * 6 + 4) b.size from rfl]
  rw [ByteArray.extract_append_extract, Nat.min_eq_left (by omega), Nat.max_eq_right (by omega), ByteArray.extract_append_extract, Nat.min_eq_left (by omega), Nat.max_eq_right (by omega), ByteArray.extract_zero_size]
/-- a letter's bytes, put together again -/
theorem nr_letter (b : ByteArray) (hl : isLetter b = true) :
    annalistref22_Right.f (numAt b 0) (numAt b 1) (numAt b 2) (numAt b 3) (numAt b 4) (numAt b 5) (b.extract 29 b.size) = some true ∧
    annalistref22_Bytes.f (numAt b 0) (numAt b 1) (numAt b 2) (numAt b 3) (numAt b 4) (numAt b 5) (b.extract 29 b.size) = some b := by
  obtain ⟨⟨h29, hM⟩, h7, h6, hS⟩ := (isLetter_iff b).1 hl
  have hne : ∀ i, i < 7 → numAt b i ≠ -1 := fun i hi hc => by
    have : has7 b = true := by
      unfold has7
      rw [List.any_eq_true]
      exact ⟨i, List.mem_range.2 hi, beq_iff_eq.2 hc⟩
    rw [h7] at this
    cases this
  have hat := fun i (hi : i < 7) => nr_at b i (by omega) (hne i hi)
  have hsz : (b.extract 29 b.size).size = b.size - 29 := by rw [ByteArray.size_extract, Nat.min_self]
  constructor
  · unfold annalistref22_Right.f
    rw [nr_all _ 6 fun i hi => by rw [nr_six (numAt b) i hi]; exact (hat i (by omega)).2]
    rw [hsz, decide_eq_true hS]; rfl
  · unfold annalistref22_Bytes.f
    rw [if_pos (by omega), hsz, ← h6, (hat 6 (by omega)).1]
    rw [nr_pre b _ 6 (by omega) (fun i hi => by rw [nr_six (numAt b) i hi]; exact (hat i (by omega)).1) (nr_list _ hM)]
    exact congrArg some (nr_join b h29)
theorem nr_j (b : ByteArray) (x : Bool) : annalistlaw22_NetReads.j0 1 b x = some true := by
  rw [annalistlaw22_NetReads.j0]
  by_cases hx : x = true
  · rw [if_pos hx]; rfl
  · rw [if_neg hx]
    unfold net_Decode.f
    rw [Option.bind_some]
    by_cases hl : isLetter b = true
    · rw [if_pos hl, if_pos rfl, (nr_letter b hl).1, Option.bind_some, if_pos rfl, (nr_letter b hl).2, Option.bind_some, beq_self_eq_true]
    · rw [if_neg hl, if_neg (by decide : ¬ ((2 : Int) = 0)), if_pos rfl]
      show some (true && (true && (true && (true && (true && (true && ((⟨#[]⟩ : ByteArray).toList == [])))))))  = some true
      rw [ByteArray.toList_eq]; rfl
theorem NetReads : annalistlaw22_NetReads.Pure := by
  intro b hb
  refine ⟨1, ?_⟩
  unfold annalistlaw22_NetReads.f annalistlaw22_awake.f
  rw [Option.bind_some, if_pos rfl]
  exact nr_j b _

end Go.Proofs.Ytolapikiflodfaa.Pure
