import Derived.Test.YtolapikiflodfaaQReplicaCommandsx4
namespace Go.Proofs.Ytolapikiflodfaa.Pure
open Go.RowKit Go.Proofs.Ytolapikiflodfaa.PReplicaCommands Go.Proofs.YtolapikiflodfaaW.PrintWords Go.Proofs.YtolapikiflodfaaW.PrintLast
open Go.Proofs.Ytolapikiflodfaa.Rep (be4 lim beK beK4 numF)

theorem rc_w (a : Int) (h0 : 0 ≤ a) (h1 : a ≤ 9223372036854775807) : wrap64 a = a := by unfold wrap64; omega
theorem rc_divs (p q r s : Nat) (hp : p < 256) (hq : q < 256) (hr : r < 256) (hs : s < 256) :
    (((((p * 256 + q) * 256 + r) * 256 + s : Nat) : Int) / 16777216) % 256 = p ∧ (((((p * 256 + q) * 256 + r) * 256 + s : Nat) : Int) / 65536) % 256 = q ∧
    (((((p * 256 + q) * 256 + r) * 256 + s : Nat) : Int) / 256) % 256 = r ∧ ((((p * 256 + q) * 256 + r) * 256 + s : Nat) : Int) % 256 = s := by
  refine ⟨by omega, by omega, by omega, by omega⟩
theorem rc_num (n : Int) (h0 : 0 ≤ n) (h1 : n ≤ 2147483647) : annalistref02_Number.f n = some (strOfNums [(n / 16777216) % 256, (n / 65536) % 256, (n / 256) % 256, n % 256]) := by
  unfold annalistref02_Number.f
  rw [if_neg (by omega), if_neg (by omega)]
  rw [Int.tdiv_eq_ediv_of_nonneg h0, Int.tdiv_eq_ediv_of_nonneg h0, Int.tdiv_eq_ediv_of_nonneg h0, Int.tmod_eq_emod_of_nonneg h0]
  rw [rc_w (n / 16777216) (by omega) (by omega), rc_w (n / 65536) (by omega) (by omega), rc_w (n / 256) (by omega) (by omega)]
  rw [Int.tmod_eq_emod_of_nonneg (show (0 : Int) ≤ n / 65536 by omega), Int.tmod_eq_emod_of_nonneg (show (0 : Int) ≤ n / 256 by omega)]
  rw [Int.emod_emod, Int.emod_emod, Int.emod_emod]
theorem rc_bt (t : ByteArray) (i : Nat) (h : i < t.size) : bt t (i : Int) = (t[i].toNat : Int) := (bt_at t (i : Int) (by rw [Int.toNat_natCast]; exact h)).symm
theorem rc_byte (x : UInt8) : UInt8.ofNat ((x.toNat : Int)).toNat = x := by rw [Int.toNat_natCast, UInt8.ofNat_toNat]
theorem rc_four (t : ByteArray) (h4 : t.size = 4) : 0 ≤ be4 t ∧ (be4 t ≤ 2147483647 → annalistref02_Number.f (be4 t) = some t) := by
  have e : be4 t = (((((t[0]'(by omega)).toNat * 256 + (t[1]'(by omega)).toNat) * 256 + (t[2]'(by omega)).toNat) * 256 + (t[3]'(by omega)).toNat : Nat) : Int) := by
    unfold be4
    rw [show bt t 0 = _ from rc_bt t 0 (by omega), show bt t 1 = _ from rc_bt t 1 (by omega), show bt t 2 = _ from rc_bt t 2 (by omega), show bt t 3 = _ from rc_bt t 3 (by omega)]
    omega
  have b0 := (t[0]'(by omega)).toNat_lt
  have b1 := (t[1]'(by omega)).toNat_lt
  have b2 := (t[2]'(by omega)).toNat_lt
  have b3 := (t[3]'(by omega)).toNat_lt
  have d := rc_divs _ _ _ _ b0 b1 b2 b3
  rw [← e] at d
  have hn : 0 ≤ be4 t := by rw [e]; exact Int.natCast_nonneg _
  refine ⟨hn, fun hl => ?_⟩
  rw [rc_num _ hn hl, d.1, d.2.1, d.2.2.1, d.2.2.2]
  refine congrArg some (ByteArray.ext_getElem ?_ ?_)
  · rw [strOfNums_size]
    simp only [List.length_cons, List.length_nil]
    omega
  · intro i hi hi'
    rw [strOfNums_size] at hi
    match i, hi with
    | 0, _ => exact rc_byte _
    | 1, _ => exact rc_byte _
    | 2, _ => exact rc_byte _
    | 3, _ => exact rc_byte _
theorem rc_join (s : ByteArray) (k : Nat) (h : k ≤ s.size) : s.extract 0 k ++ s.extract k s.size = s := by
  rw [ByteArray.extract_append_extract, Nat.min_eq_left (Nat.zero_le k), Nat.max_eq_right h]; exact ByteArray.extract_zero_size
theorem rc_nil (s : ByteArray) : s.toList = [] ↔ s.size = 0 := by
  rw [ByteArray.toList_eq, List.eq_nil_iff_length_eq_zero, Array.length_toList]; rfl
theorem rc_empty (s : ByteArray) (h : s.size = 0) : s = ⟨#[]⟩ := by
  refine ByteArray.ext_getElem (by rw [h]; rfl) ?_
  intro i hi _; omega
theorem rc_cut (s : ByteArray) (bad : Bool) (n : Int) : wire_reader_cut.f s bad n = some (if bad = false ∧ 0 ≤ n ∧ n ≤ (s.size : Int) then (s.extract 0 n.toNat, s.extract n.toNat s.size, false) else (⟨#[]⟩, s, true)) := by
  unfold wire_reader_cut.f
  cases bad with
  | true => rw [if_pos rfl, if_neg (fun h => absurd h.1 (by decide))]
  | false =>
    rw [if_neg (by decide)]
    by_cases h0 : n < 0
    · rw [if_pos h0, if_neg (fun h => by omega)]
    · rw [if_neg h0]
      by_cases h1 : n > (s.size : Int)
      · rw [if_pos h1, if_neg (fun h => by omega)]
      · rw [if_neg h1, if_pos (by omega), if_pos (by omega), if_pos ⟨rfl, by omega, by omega⟩]
theorem rc_number (s : ByteArray) (bad : Bool) : wire_reader_number.f s bad = some (if bad = false ∧ 4 ≤ s.size then (be4 (s.extract 0 4), s.extract 4 s.size, decide (be4 (s.extract 0 4) > 2147483647)) else (0, s, true)) := by
  unfold wire_reader_number.f
  rw [rc_cut]
  by_cases h : bad = false ∧ 4 ≤ s.size
  · rw [if_pos ⟨h.1, by decide, by omega⟩, if_pos h]
    have e : rnV (s.extract 0 4) = be4 (s.extract 0 4) := by
      unfold rnV; rw [show (s.extract 0 4).size = 4 by rw [ByteArray.size_extract]; omega]; exact beK4 _
    show some (rnV (s.extract 0 4), s.extract 4 s.size, (false || decide (rnV (s.extract 0 4) > 2147483647))) = _
    rw [e, Bool.false_or]
  · rw [if_neg (fun k => h ⟨k.1, by omega⟩), if_neg h]
    rfl
theorem rc_number_ok (s s2 : ByteArray) (bad : Bool) (n : Int) (h : wire_reader_number.f s bad = some (n, s2, false)) :
    bad = false ∧ 0 ≤ n ∧ n ≤ 2147483647 ∧ ∃ p, annalistref02_Number.f n = some p ∧ p ++ s2 = s ∧ p.size = 4 := by
  rw [rc_number] at h
  by_cases c : bad = false ∧ 4 ≤ s.size
  · rw [if_pos c] at h
    have h4 : (s.extract 0 4).size = 4 := by rw [ByteArray.size_extract]; omega
    simp only [Option.some.injEq, Prod.mk.injEq] at h
    obtain ⟨rfl, rfl, h3⟩ := h
    have h5 := of_decide_eq_false h3
    have hf := rc_four _ h4
    exact ⟨c.1, hf.1, by omega, _, hf.2 (by omega), rc_join s 4 c.2, h4⟩
  · rw [if_neg c] at h
    simp at h
theorem rc_text (s : ByteArray) (bad : Bool) : ∃ x, wire_reader_text.f s bad = some x := by
  unfold wire_reader_text.f
  rw [rc_number, Option.bind_some, rc_cut, Option.bind_some]
  exact ⟨_, rfl⟩
theorem rc_text_ok (s s2 t : ByteArray) (bad : Bool) (h : wire_reader_text.f s bad = some (t, s2, false)) :
    bad = false ∧ ∃ p, annalistref02_Number.f (t.size : Int) = some p ∧ p ++ t ++ s2 = s ∧ p.size = 4 := by
  unfold wire_reader_text.f at h
  cases hn : wire_reader_number.f s bad with
  | none => rw [hn] at h; cases h
  | some x =>
    obtain ⟨n, s1, b1⟩ := x
    rw [hn, Option.bind_some, rc_cut, Option.bind_some] at h
    by_cases c : b1 = false ∧ 0 ≤ n ∧ n ≤ (s1.size : Int)
    · rw [if_pos c] at h
      simp only [Option.some.injEq, Prod.mk.injEq] at h
      obtain ⟨rfl, rfl, _⟩ := h
      rw [c.1] at hn
      obtain ⟨e1, e2, e3, p, hp, hj, h4⟩ := rc_number_ok s s1 bad n hn
      have hz : ((s1.extract 0 n.toNat).size : Int) = n := by rw [ByteArray.size_extract]; omega
      refine ⟨e1, p, by rw [hz]; exact hp, ?_, h4⟩
      rw [ByteArray.append_assoc, rc_join s1 n.toNat (by omega), hj]
    · rw [if_neg c] at h
      simp at h
theorem rc_right (c q : Int) (leaf key val : ByteArray) (k : Nat) (h : wire_Right.f c q leaf key val = some true) : annalistref02_Right.f (k + 1) c q leaf key val = some true := by
  unfold wire_Right.f at h
  unfold annalistref02_Right.f
  have hn : ∀ x : ByteArray, (x.size : Int) ≥ 1 → ¬ x.toList = [] := fun x hx e => by have := (rc_nil x).1 e; omega
  split at h
  · split at h
    · split at h
      · split at h
        · split at h
          · split at h
            · split at h
              · split at h
                · rw [if_neg (by omega), if_neg (by omega), if_neg (by omega), annalistref02_Right.j0, if_neg (by simp; omega), if_neg (hn leaf (by omega)), if_neg (by omega), if_neg (by omega), if_neg (by omega)]
                  exact h
                · cases h
              · cases h
            · cases h
          · cases h
        · cases h
      · cases h
    · cases h
  · cases h
theorem rc_right_all (c q : Int) (leaf key val : ByteArray) : ∃ r, wire_Right.f c q leaf key val = some r := by
  unfold wire_Right.f
  split
  · split
    · split
      · split
        · split
          · split
            · split
              · split
                · split <;> exact ⟨_, rfl⟩
                · exact ⟨_, rfl⟩
              · exact ⟨_, rfl⟩
            · exact ⟨_, rfl⟩
          · exact ⟨_, rfl⟩
        · exact ⟨_, rfl⟩
      · exact ⟨_, rfl⟩
    · exact ⟨_, rfl⟩
  · exact ⟨_, rfl⟩
theorem rc_text_ref (t p : ByteArray) (h : annalistref02_Number.f (t.size : Int) = some p) (h4 : p.size = 4) (ht : t.size ≤ 500) : annalistref02_Text.f t = some (p ++ t) := by
  unfold annalistref02_Text.f
  rw [h, Option.bind_some, if_pos (by omega)]
/-- what ReadRequest tells: nothing, or a request whose bytes are the given ones -/
theorem rc_read (b : ByteArray) (hb : b.size ≤ 500) (k : Nat) : wire_ReadRequest.f b = some (0, 0, ⟨#[]⟩, ⟨#[]⟩, ⟨#[]⟩, 2) ∨
    ∃ c q leaf key val, wire_ReadRequest.f b = some (c, q, leaf, key, val, 0) ∧ annalistref02_Right.f (k + 1) c q leaf key val = some true ∧ annalistref02_Request.f c q leaf key val = some b := by
  unfold wire_ReadRequest.f
  cases hm : wire_reader_mark.f b false ⟨#[82]⟩ with
  | none => unfold wire_reader_mark.f at hm; rw [if_neg (by decide), rc_cut, Option.bind_some] at hm; cases hm
  | some m =>
  obtain ⟨s1, b1⟩ := m
  rw [Option.bind_some]
  cases h2 : wire_reader_number.f s1 b1 with
  | none => rw [rc_number] at h2; cases h2
  | some x =>
  obtain ⟨c, s2, b2⟩ := x
  rw [Option.bind_some]
  cases h3 : wire_reader_number.f s2 b2 with
  | none => rw [rc_number] at h3; cases h3
  | some x =>
  obtain ⟨q, s3, b3⟩ := x
  rw [Option.bind_some]
  obtain ⟨⟨leaf, s4, b4⟩, h4⟩ := rc_text s3 b3
  obtain ⟨⟨key, s5, b5⟩, h5⟩ := rc_text s4 b4
  obtain ⟨⟨val, s6, b6⟩, h6⟩ := rc_text s5 b5
  simp only [h4, h5, h6, Option.bind_some]
  obtain ⟨r, h8⟩ := rc_right_all c q leaf key val
  cases h7 : wire_reader_done.f s6 b6 with
  | none => unfold wire_reader_done.f at h7; split at h7 <;> cases h7
  | some x =>
  obtain ⟨d, s7, b7⟩ := x
  simp only [h8, Option.bind_some]
  by_cases hd : (d && r) = true
  · rw [if_pos hd]
    obtain ⟨rfl, rfl⟩ : d = true ∧ r = true := by simpa using hd
    refine .inr ⟨c, q, leaf, key, val, rfl, rc_right _ _ _ _ _ k h8, ?_⟩
    have hb6 : b6 = false ∧ s6.toList = [] := by
      unfold wire_reader_done.f at h7
      cases b6 with
      | true => rw [if_pos rfl] at h7; cases h7
      | false =>
        rw [if_neg (by decide)] at h7
        simp only [Option.some.injEq, Prod.mk.injEq] at h7
        exact ⟨rfl, by simpa using h7.1⟩
    obtain ⟨rfl, hs6⟩ := hb6
    obtain rfl := rc_empty s6 ((rc_nil s6).1 hs6)
    obtain ⟨rfl, p6, n6, j6, z6⟩ := rc_text_ok _ _ _ _ h6
    obtain ⟨rfl, p5, n5, j5, z5⟩ := rc_text_ok _ _ _ _ h5
    obtain ⟨rfl, p4, n4, j4, z4⟩ := rc_text_ok _ _ _ _ h4
    obtain ⟨rfl, q0, q1, p3, n3, j3, z3⟩ := rc_number_ok _ _ _ _ h3
    obtain ⟨rfl, c0, c1, p2, n2, j2, z2⟩ := rc_number_ok _ _ _ _ h2
    have hm1 : (⟨#[82]⟩ : ByteArray) ++ s1 = b := by
      unfold wire_reader_mark.f at hm
      rw [if_neg (by decide), rc_cut, Option.bind_some] at hm
      by_cases c : (false = false) ∧ (0 : Int) ≤ 1 ∧ (1 : Int) ≤ (b.size : Int)
      · rw [if_pos c] at hm
        simp only [Option.some.injEq, Prod.mk.injEq] at hm
        obtain ⟨rfl, e⟩ := hm
        have e2 : (b.extract 0 (1 : Int).toNat).toList = (⟨#[82]⟩ : ByteArray).toList := by simpa using e
        have e3 : b.extract 0 (1 : Int).toNat = ⟨#[82]⟩ := by
          rw [ByteArray.toList_eq, ByteArray.toList_eq] at e2
          exact ByteArray.ext (Array.toList_inj.1 e2)
        rw [← e3]; exact rc_join b 1 (by omega)
      · rw [if_neg c] at hm
        simp only [Option.some.injEq, Prod.mk.injEq] at hm
        have e := hm.2
        rw [ByteArray.toList_eq, ByteArray.toList_eq] at e
        exact absurd e (by decide)
    have he : ∀ x : ByteArray, x ++ (⟨#[]⟩ : ByteArray) = x := fun x => ByteArray.append_empty
    rw [he] at j6
    have hj : (((((⟨#[82]⟩ : ByteArray) ++ p2) ++ p3) ++ (p4 ++ leaf)) ++ (p5 ++ key)) ++ (p6 ++ val) = b := by
      rw [← hm1, ← j2, ← j3, ← j4, ← j5, ← j6]
      simp only [ByteArray.append_assoc]
    have hsz : 1 + 4 + 4 + (4 + leaf.size) + (4 + key.size) + (4 + val.size) = b.size := by
      rw [← hj]; simp only [ByteArray.size_append, z2, z3, z4, z5, z6]; rfl
    unfold annalistref02_Request.f
    have hone : (⟨#[82]⟩ : ByteArray).size = 1 := rfl
    rw [n2, Option.bind_some, if_pos (by omega), n3, Option.bind_some, if_pos (by simp only [ByteArray.size_append]; omega), rc_text_ref leaf p4 n4 z4 (by omega), Option.bind_some, if_pos (by simp only [ByteArray.size_append]; omega),
      rc_text_ref key p5 n5 z5 (by omega), Option.bind_some, if_pos (by simp only [ByteArray.size_append]; omega), rc_text_ref val p6 n6 z6 (by omega), Option.bind_some, if_pos (by simp only [ByteArray.size_append]; omega), hj]
  · rw [if_neg hd]
    exact .inl rfl
theorem rc_step (b : ByteArray) (h5 : b.size = 5) (k : Nat) (n : Int) (i : Nat) (hi : i < 5) (h0 : 0 ≤ n) (h1 : n ≤ 16777215) : annalistref20_Time.l0 (k + 1) b n (i : Int) = annalistref20_Time.l0 k b (n * 256 + bt b (i : Int)) ((i + 1 : Nat) : Int) := by
  have hr := bt_range b (i : Int)
  rw [annalistref20_Time.l0, if_pos (by omega), if_pos (by omega), if_pos (by omega), rc_w (n * 256) (by omega) (by omega), rc_w (bt b (i : Int)) hr.1 (by omega), rc_w _ (by omega) (by omega), rc_w ((i : Int) + 1) (by omega) (by omega)]
  rfl
theorem rc_time_l (b : ByteArray) (h5 : b.size = 5) (k : Nat) : annalistref20_Time.l0 (k + 5) b 0 1 = some (lim (be4 (b.extract 1 b.size))) := by
  have e : ∀ i : Nat, i < 4 → bt (b.extract 1 b.size) (i : Int) = bt b ((i + 1 : Nat) : Int) := fun i hi => by
    rw [rc_bt _ i (by rw [ByteArray.size_extract]; omega), rc_bt _ (i + 1) (by omega), ByteArray.getElem_extract]
    congr 3; omega
  have e0 : bt (b.extract 1 b.size) 0 = bt b 1 := e 0 (by decide)
  have e1 : bt (b.extract 1 b.size) 1 = bt b 2 := e 1 (by decide)
  have e2 : bt (b.extract 1 b.size) 2 = bt b 3 := e 2 (by decide)
  have e3 : bt (b.extract 1 b.size) 3 = bt b 4 := e 3 (by decide)
  have r1 := bt_range b 1; have r2 := bt_range b 2; have r3 := bt_range b 3; have r4 := bt_range b 4
  have s1 : annalistref20_Time.l0 (k + 5) b 0 1 = annalistref20_Time.l0 (k + 4) b (0 * 256 + bt b 1) 2 := rc_step b h5 (k + 4) 0 1 (by decide) (by decide) (by decide)
  have s2 : annalistref20_Time.l0 (k + 4) b (0 * 256 + bt b 1) 2 = annalistref20_Time.l0 (k + 3) b ((0 * 256 + bt b 1) * 256 + bt b 2) 3 := rc_step b h5 (k + 3) _ 2 (by decide) (by omega) (by omega)
  have s3 : annalistref20_Time.l0 (k + 3) b ((0 * 256 + bt b 1) * 256 + bt b 2) 3 = annalistref20_Time.l0 (k + 2) b (((0 * 256 + bt b 1) * 256 + bt b 2) * 256 + bt b 3) 4 := rc_step b h5 (k + 2) _ 3 (by decide) (by omega) (by omega)
  have s4 : annalistref20_Time.l0 (k + 2) b (((0 * 256 + bt b 1) * 256 + bt b 2) * 256 + bt b 3) 4 = annalistref20_Time.l0 (k + 1) b ((((0 * 256 + bt b 1) * 256 + bt b 2) * 256 + bt b 3) * 256 + bt b 4) 5 := rc_step b h5 (k + 1) _ 4 (by decide) (by omega) (by omega)
  rw [s1, s2, s3, s4, annalistref20_Time.l0, if_neg (by decide)]
  unfold lim be4
  rw [e0, e1, e2, e3, show (0 : Int) * 256 + bt b 1 = bt b 1 by omega]
  split <;> rfl
theorem rc_first (b : ByteArray) (h : 0 < b.size) : ((b.extract 0 1).toList == ([67] : List UInt8)) = true ↔ bt b 0 = 67 := by
  have e : b.extract 0 1 = ⟨#[b[0]]⟩ := by
    refine ByteArray.ext_getElem (by rw [ByteArray.size_extract]; show min 1 b.size - 0 = 1; omega) ?_
    intro i hi hi2
    have h1 : i < 1 := hi2
    obtain rfl : i = 0 := by omega
    rw [ByteArray.getElem_extract]; rfl
  have hb : bt b 0 = (b[0].toNat : Int) := rc_bt b 0 h
  rw [e, ByteArray.toList_eq, hb, beq_iff_eq]
  constructor
  · intro k
    have : b[0] = 67 := by simpa using k
    rw [this]; rfl
  · intro k
    have : b[0] = 67 := UInt8.toNat_inj.1 (by show b[0].toNat = 67; omega)
    rw [this]
theorem rc_time (b : ByteArray) (k : Nat) : annalistref20_Time.f (k + 6) b = some (if b.size = 5 ∧ bt b 0 = 67 then lim (be4 (b.extract 1 b.size)) else -1) := by
  unfold annalistref20_Time.f
  by_cases h5 : b.size = 5
  · rw [if_pos (by omega), if_pos (by omega), annalistref20_Time.j0]
    by_cases h0 : bt b 0 = 67
    · rw [if_neg (by simp [h0]), if_pos ⟨h5, h0⟩]; exact rc_time_l b h5 k
    · rw [if_pos (by simp [h0]), if_neg (fun h => h0 h.2)]
  · rw [if_neg (by omega), annalistref20_Time.j0, if_pos rfl, if_neg (fun h => h5 h.1)]
theorem rc_lim (t : ByteArray) (h : t.size = 4) : lim (be4 t) = -1 ∨ 0 ≤ lim (be4 t) := by
  have := (rc_four t h).1
  unfold lim; split
  · exact .inl rfl
  · exact .inr this
theorem ReplicaCommands : annalistlaw20_ReplicaCommands.Pure := by
  intro b _
  refine ⟨8, ?_⟩
  unfold annalistlaw20_ReplicaCommands.f annalistlaw20_awake.f
  rw [Option.bind_some, if_pos rfl, annalistlaw20_ReplicaCommands.j0]
  by_cases h5 : (b.size : Int) > 500
  · rw [if_pos (decide_eq_true h5)]; rfl
  rw [if_neg (by simpa using h5), rc_time b 1]
  have hemp : ((⟨#[]⟩ : ByteArray).toList == ([] : List UInt8)) = true := by rw [ByteArray.toList_eq]; rfl
  have hread : ∀ k, replica_Command.j0 (k + 1) b false = some (0, 0, ⟨#[]⟩, ⟨#[]⟩, ⟨#[]⟩, -1, false) ∨ ∃ c q leaf key val, replica_Command.j0 (k + 1) b false = some (c, q, leaf, key, val, -1, true) ∧
      annalistref02_Right.f 7 c q leaf key val = some true ∧ annalistref02_Request.f c q leaf key val = some b := fun k => by
    rw [replica_Command.j0, if_neg (by decide)]
    rcases rc_read b (by omega) 6 with h | ⟨c, q, leaf, key, val, h, hr, hq⟩
    · rw [h]; exact .inl rfl
    · rw [h]; exact .inr ⟨c, q, leaf, key, val, rfl, hr, hq⟩
  have fin : ¬ (b.size = 5 ∧ bt b 0 = 67) → replica_Command.f 7 b = replica_Command.j0 7 b false → ((replica_Command.f 7 b).bind fun bt151 => ((some (if b.size = 5 ∧ bt b 0 = 67 then lim (be4 (b.extract 1 b.size)) else -1)).bind fun t159 => (if t159 ≥ 0 then (if bt151.2.2.2.2.2.2 = true then (if bt151.2.2.2.2.2.1 = t159 then (some (bt151.1 == 0 && (bt151.2.1 == 0 && (bt151.2.2.1.toList == ([] : List UInt8) && (bt151.2.2.2.1.toList == ([] : List UInt8) && (bt151.2.2.2.2.1.toList == ([] : List UInt8))))))) else (some false)) else (some false)) else (if bt151.2.2.2.2.2.2 = true then (if bt151.2.2.2.2.2.1 = (-1) then ((annalistref02_Right.f 7 bt151.1 bt151.2.1 bt151.2.2.1 bt151.2.2.2.1 bt151.2.2.2.2.1).bind fun t160 => (if t160 = true then ((annalistref02_Request.f bt151.1 bt151.2.1 bt151.2.2.1 bt151.2.2.2.1 bt151.2.2.2.2.1).bind fun t161 => (some (t161.toList == b.toList))) else (some false))) else (some false)) else (if (bt151.1 == 0 && (bt151.2.1 == 0 && (bt151.2.2.1.toList == ([] : List UInt8) && (bt151.2.2.2.1.toList == ([] : List UInt8) && (bt151.2.2.2.2.1.toList == ([] : List UInt8)))))) = true then (some (bt151.2.2.2.2.2.1 == (-1))) else (some false)))))) = some true := by
    intro hn hc
    rw [hc, if_neg hn]
    rcases hread 6 with h | ⟨c, q, leaf, key, val, h, hr, hq⟩
    · rw [h, Option.bind_some, Option.bind_some, if_neg (by decide)]
      simp only [hemp]; rfl
    · rw [h, Option.bind_some, Option.bind_some, if_neg (by decide), if_pos rfl, if_pos rfl, hr, Option.bind_some, if_pos rfl, hq, Option.bind_some, beq_self_eq_true]
  by_cases hs : (b.size : Int) > 0
  · by_cases hC : ((b.extract 0 1).toList == ([67] : List UInt8)) = true
    · have h0 := (rc_first b (by omega)).1 hC
      have hc : replica_Command.f 7 b = some (0, 0, ⟨#[]⟩, ⟨#[]⟩, ⟨#[]⟩, numF (b.extract 1 b.size), decide (numF (b.extract 1 b.size) ≥ 0)) := by
        unfold replica_Command.f
        rw [if_pos hs, if_pos (by decide), if_pos (by omega), hC, replica_Command.j0, if_pos rfl, if_pos (by omega)]
        rfl
      have hsz : (b.extract 1 b.size).size = b.size - 1 := by rw [ByteArray.size_extract]; omega
      have hn : (if b.size = 5 ∧ bt b 0 = 67 then lim (be4 (b.extract 1 b.size)) else -1) = numF (b.extract 1 b.size) := by
        unfold numF
        by_cases h5 : b.size = 5
        · rw [if_pos ⟨h5, h0⟩, if_pos (by omega)]
        · rw [if_neg (fun h => h5 h.1), if_neg (by omega)]
      have hv : numF (b.extract 1 b.size) = -1 ∨ 0 ≤ numF (b.extract 1 b.size) := by
        unfold numF
        split
        · exact rc_lim _ (by assumption)
        · exact .inl rfl
      rw [hc, hn, Option.bind_some, Option.bind_some]
      generalize numF (b.extract 1 b.size) = n at hv
      rcases hv with rfl | hv
      · rw [if_neg (by decide), if_neg (by decide)]
        simp only [hemp]; rfl
      · rw [if_pos hv, if_pos (decide_eq_true hv), if_pos rfl]
        simp only [hemp]; rfl
    · refine fin ?_ ?_
      · exact fun h => hC ((rc_first b (by omega)).2 h.2)
      · unfold replica_Command.f
        rw [if_pos hs, if_pos (by decide), if_pos (by omega), Bool.eq_false_iff.2 hC]
  · refine fin (fun h => by omega) ?_
    unfold replica_Command.f
    rw [if_neg hs]
end Go.Proofs.Ytolapikiflodfaa.Pure
