import Derived.Test.YtolapikiflodfaaQNetCodesx0
import Derived.Test.YtolapikiflodfaaQNetCodesx5
import Derived.Test.YtolapikiflodfaaQNetCodesx6
import Derived.Test.YtolapikiflodfaaQNetCodesx7
namespace Go.Proofs.Ytolapikiflodfaa.PNetCodes
open Go.RowKit Go.Proofs.YtolapikiflodfaaW.PrintWords Go.Proofs.YtolapikiflodfaaW.PrintLast Go.Proofs.YtolapikiflodfaaW.PrintMore
attribute [local go_sem] max2_int min2_int max_two min_two max_three min_three max_four min_four   -- for this text's walks alone
set_option linter.unusedVariables false
set_option linter.unusedSimpArgs false

/-! ### net_Decode: function 29 -/
def tailAt (b : ByteArray) (i : Nat) : ByteArray := b.extract i b.size
/-- the i-th number of a letter's bytes -/
def numAt (b : ByteArray) (i : Nat) : Int := lim (be4 (tailAt b (1 + 4 * i)))
theorem index_f (l : List Int) (a : Int) (hl : l.length ≤ 1000000) (d : Nat) : ∀ (k i : Nat), i + d = l.length → d < k →
    ∃ r, slices_Index_int_int.l0 k l a (l.length : Int) (i : Int) = some r ∧ (r ≥ 0 ↔ ∃ j, i ≤ j ∧ j < l.length ∧ rd l (j : Nat) = a) := by
  induction d with
  | zero =>
    intro k i hi hk
    obtain ⟨k, rfl⟩ : ∃ m, k = m + 1 := ⟨k - 1, by omega⟩
    refine ⟨-1, ?_, fun h => absurd h (by decide), fun ⟨j, h1, h2, _⟩ => by omega⟩
    rw [slices_Index_int_int.l0, if_neg (by omega)]
  | succ d ih =>
    intro k i hi hk
    obtain ⟨k, rfl⟩ : ∃ m, k = m + 1 := ⟨k - 1, by omega⟩
    have hw : wrap64 ((i : Int) + 1) = ((i + 1 : Nat) : Int) := by unfold wrap64; omega
    by_cases e : a = rd l (i : Int)
    · refine ⟨i, ?_, fun _ => ⟨i, Nat.le_refl _, by omega, e.symm⟩, fun _ => by omega⟩
      rw [slices_Index_int_int.l0, if_pos (by omega), if_pos (by omega), if_pos (by omega), if_pos e]
    · obtain ⟨r, h1, h2⟩ := ih k (i + 1) (by omega) (by omega)
      refine ⟨r, ?_, h2.trans ⟨fun ⟨j, a1, a2, a3⟩ => ⟨j, by omega, a2, a3⟩, fun ⟨j, a1, a2, a3⟩ => ⟨j, ?_, a2, a3⟩⟩⟩
      · rw [slices_Index_int_int.l0, if_pos (by omega), if_pos (by omega), if_pos (by omega), if_neg e, hw]; exact h1
      · rcases Nat.lt_or_ge i j with h | h
        · exact h
        · exact absurd (show a = rd l (i : Int) by rw [← a3, show i = j by omega]) e
theorem contains_f (l : List Int) (a : Int) (hl : l.length ≤ 1000000) (x : Bool) (hx : x = true ↔ ∃ j, j < l.length ∧ rd l (j : Nat) = a) : slices_Contains_int_int.f (l.length + 1) l a = some x := by
  obtain ⟨r, h1, h2⟩ := index_f l a hl l.length (l.length + 1) 0 (by omega) (by omega)
  unfold slices_Contains_int_int.f slices_Index_int_int.f
  rw [show (0 : Int) = ((0 : Nat) : Int) from rfl, h1, Option.bind_some]
  congr 1
  rw [Bool.eq_iff_iff, hx, decide_eq_true_eq]
  exact h2.trans ⟨fun ⟨j, _, b, c⟩ => ⟨j, b, c⟩, fun ⟨j, b, c⟩ => ⟨j, Nat.zero_le _, b, c⟩⟩
def nums7 (b : ByteArray) : List Int := (List.range 7).map (numAt b)
theorem nums7_rd (b : ByteArray) (j : Nat) (hj : j < 7) : rd (nums7 b) (j : Int) = numAt b j := by
  unfold rd nums7
  rw [Int.toNat_natCast, List.getD_eq_getElem?_getD, List.getElem?_map, List.getElem?_range hj]; rfl
def has7 (b : ByteArray) : Bool := (List.range 7).any fun i => numAt b i == -1
theorem has7_iff (b : ByteArray) : has7 b = true ↔ ∃ j, j < (nums7 b).length ∧ rd (nums7 b) (j : Nat) = -1 := by
  unfold has7
  rw [List.any_eq_true]
  have hl : (nums7 b).length = 7 := by simp [nums7]
  constructor
  · rintro ⟨j, h1, h2⟩
    have := List.mem_range.1 h1
    exact ⟨j, by omega, (nums7_rd b j this).trans (beq_iff_eq.1 h2)⟩
  · rintro ⟨j, h1, h2⟩
    have hj : j < 7 := by omega
    exact ⟨j, List.mem_range.2 hj, beq_iff_eq.2 ((nums7_rd b j hj).symm.trans h2)⟩
def arr7 (b : ByteArray) (k : Nat) : Array Value := ((List.range 7).map fun j => Value.int .i64 (if j < k then numAt b j else 0)).toArray
theorem arr7_get (b : ByteArray) (k j : Nat) (hj : j < 7) : (arr7 b k)[j]? = some (.int .i64 (if j < k then numAt b j else 0)) := by
  unfold arr7
  rw [List.getElem?_toArray, List.getElem?_map, List.getElem?_range hj]; rfl
theorem arr7_set (b : ByteArray) (k : Nat) (hk : k < 7) : (arr7 b k).setIfInBounds k (.int .i64 (numAt b k)) = arr7 b (k + 1) := by
  unfold arr7
  rw [List.setIfInBounds_toArray]
  congr 1
  apply List.ext_getElem
  · simp
  · intro j h1 h2
    rw [List.getElem_set]
    simp only [List.getElem_map, List.getElem_range]
    by_cases e : k = j
    · subst e; rw [if_pos rfl, if_pos (Nat.lt_succ_self k)]
    · rw [if_neg e]
      by_cases h : j < k
      · rw [if_pos h, if_pos (by omega)]
      · rw [if_neg h, if_neg (by omega)]
theorem arr7_all (b : ByteArray) (k j : Nat) (hk : 7 ≤ k) (hj : j < 7) : (arr7 b k)[j]? = some (.int .i64 (numAt b j)) := by
  rw [arr7_get b k j hj, if_pos (by omega)]
theorem has_call (b : ByteArray) (g k : Nat) (hk : 7 ≤ k) (w : World) (hb : w.heap[g]? = some (.cells (arr7 b k) 107 (0, 0))) :
    Calls Try.prog 72 #[.slice (some ⟨g, 0, none⟩) 7 7, .int .i64 (-1)] w fun e w' => e = .returned (.bool (has7 b)) ∧ Drawn0 w w' := by
  have hl : (nums7 b).length = 7 := by simp [nums7]
  have h := slices_Contains_int_int.calls ((nums7 b).length + 1) (some ⟨g, 0, none⟩) 7 (nums7 b) (-1) (has7 b) w ?_ (by omega) (contains_f (nums7 b) (-1) (by omega) (has7 b) (has7_iff b))
  · rw [hl] at h; exact h
  · refine ⟨rfl, by omega, fun _ => ⟨⟨g, 0, none⟩, rfl, fun j p hp => ⟨[.int .i64 p], rfl, rfl, fun i u hu => ?_⟩⟩⟩
    obtain ⟨hj, rfl⟩ := List.getElem?_eq_some_iff.1 hp
    have hj7 : j < 7 := by omega
    obtain rfl : i = 0 := by
      have := (List.getElem?_eq_some_iff.1 hu).1
      simp at this; exact this
    obtain rfl : Value.int .i64 ((nums7 b)[j]) = u := (List.getElem?_eq_some_iff.1 hu).2
    have hc := (blk_cell hb j).trans (arr7_all b k j hk hj7)
    have e : (⟨g, 0, none⟩ : Addr).add (j * (Kd.int .i64).sz + 0) = ⟨g, j, none⟩ := by
      rw [show (Kd.int .i64).sz = 1 from rfl, Nat.mul_one, Nat.add_zero]
      simp only [Addr.add]
      split
      · rename_i h; rw [h]
      · rw [Nat.zero_add]
    rw [e, hc]
    simp [nums7]

def zero42 : Array Value := #[.int .i64 0, .int .i64 0, .int .i64 0, .int .i64 0, .int .i64 0, .int .i64 0, .string (⟨#[]⟩ : ByteArray)]
def zero107 : Array Value := #[.int .i64 0, .int .i64 0, .int .i64 0, .int .i64 0, .int .i64 0, .int .i64 0, .int .i64 0]
theorem arr7_zero (b : ByteArray) : zero107 = arr7 b 0 := rfl

def bad42 : Value := .tuple #[.agg zero42, .int .i64 2]
def good42 (b : ByteArray) : Value := .tuple #[.agg #[.int .i64 (numAt b 0), .int .i64 (numAt b 1), .int .i64 (numAt b 2), .int .i64 (numAt b 3), .int .i64 (numAt b 4), .int .i64 (numAt b 5), .string (b.extract 29 b.size)], .int .i64 0]
def whole (b : ByteArray) : Value := if has7 b = false ∧ numAt b 6 = ((b.size - 29 : Nat) : Int) ∧ ((b.size - 29 : Nat) : Int) ≤ 1000 then good42 b else bad42
set_option maxRecDepth 100000 in
set_option maxHeartbeats 8000000 in
theorem dec_loop (b : ByteArray) (hs : 29 ≤ b.size) (hm : ((b.extract 0 1).toList == [77]) = true) (T : Value) (hT : whole b = T) (w : World) : Calls Try.prog 29 #[.string b] w fun e w' => e = .returned T ∧ Below w.heap.size w w' := by
  have HT := Aside0.mk hT
  clear hT
  have hu42 := Try.underlying42
  have hb : decide ((b.size : Int) < 29) = false := by simp; omega
  have HB := Aside0.mk (Below.refl w.heap.size w)
  go_enter Try.func29, Try.ntmps29
  go_wp2_with (first
    | ((with_reducible refine gate_dst (N := 2) rfl ?_); refine box_event ?hg (N := 2) ?hd (cs := zero42) (t := 42) ?hr ?_; (case hd => rfl); (case hg => rfl); (case hr => first | (go_simp; done) | (go_simp; rfl)); intro gA hgA w1 hbA hbb; have GA := Aside0.mk (show w.heap.size ≤ gA by rw [hgA]; exact Nat.le_refl _); have BA := Aside0.mk hbA; have n_ := Aside0.mk (below_step HB.out hbb); clear HB; have HB := n_; clear n_ hbA hbb hgA)
    | ((with_reducible refine gate_dst (N := 5) rfl ?_); refine box_event ?hg (N := 5) ?hd (cs := zero107) (t := 107) ?hr ?_; (case hd => rfl); (case hg => rfl); (case hr => first | (go_simp; done) | (go_simp; rfl)); intro gB hgB w2 hbB hbb; have GB := Aside0.mk (show w.heap.size ≤ gB by rw [hgB]; exact HB.out.size); have NAB := Aside0.mk (show gA ≠ gB by rw [hgB]; exact Nat.ne_of_lt (blk_lt BA.out)); have BB := Aside0.mk hbB; have n_ := Aside0.mk (below_step HB.out hbb); have n1_ := Aside0.mk (blk_below BA.out hbb); clear HB BA; have HB := n_; have BA := n1_; clear n_ n1_ hbB hbb hgB))
  rw [arr7_zero b] at BB
  go_loopw [18] (fun v18 wr => ∃ k : Nat, v18 = .int .i64 k ∧ k ≤ 7 ∧ Aside0 (wr.heap[gA]? = some (.cells zero42 42 (0, 0))) ∧ Aside0 (wr.heap[gB]? = some (.cells (arr7 b k) 107 (0, 0))) ∧ Aside0 (Below w.heap.size w wr)) (fun v _ => 7 - (intOf v).toNat)
  case atStart => exact ⟨0, rfl, Nat.zero_le _, BA, BB, HB⟩
  case round =>
    obtain ⟨k, rfl, hk, BA, BB, HB⟩ := hrel
    by_cases hlt : k < 7
    · have hsl : 1 + 4 * (k : Int) ≤ b.size := by omega
      have h4 : 4 ≤ (tailAt b (1 + 4 * k)).size := by unfold tailAt; rw [ByteArray.size_extract]; omega
      go_wp2_with (go_at_call 71; refine (net_four_calls (tailAt b (1 + 4 * k)) h4 (numAt b k) rfl _).mono ?_; rintro e w3 ⟨rfl, hb3⟩; have n_ := Aside0.mk (below_step HB.out hb3); have n1_ := Aside0.mk (blk_below BA.out hb3); have n2_ := Aside0.mk (blk_below BB.out hb3); clear HB BA BB hb3; have HB := n_; have BA := n1_; have BB := n2_; clear n_ n1_ n2_; have hcz := (blk_cell BB.out k).trans (arr7_get b k k hlt); have hfz := blk_frozen BB.out k)
      go_roundw
      case rel => exact ⟨k + 1, by go_num, by omega, ⟨blk_far BA.out NAB.out _⟩, ⟨blk_put BB.out k _ (arr7_set b k hlt)⟩, ⟨below_set HB.out GB.out⟩⟩
      case measure => simp [intOf]; omega
    · have hge : 7 ≤ k := by omega
      clear hlt
      have hv : (b.extract 29 b.size).size = b.size - 29 := by rw [ByteArray.size_extract]; omega
      have HV := Aside0.mk hv
      clear hv
      have ha0 := (blk_cell BA.out 0).trans (show zero42[0]? = some (.int .i64 0) from rfl)
      have ha1 := (blk_cell BA.out 1).trans (show zero42[1]? = some (.int .i64 0) from rfl)
      have ha2 := (blk_cell BA.out 2).trans (show zero42[2]? = some (.int .i64 0) from rfl)
      have ha3 := (blk_cell BA.out 3).trans (show zero42[3]? = some (.int .i64 0) from rfl)
      have ha4 := (blk_cell BA.out 4).trans (show zero42[4]? = some (.int .i64 0) from rfl)
      have ha5 := (blk_cell BA.out 5).trans (show zero42[5]? = some (.int .i64 0) from rfl)
      have ha6 := (blk_cell BA.out 6).trans (show zero42[6]? = some (.string (⟨#[]⟩ : ByteArray)) from rfl)
      have hf0 := blk_frozen BA.out 0
      have hf1 := blk_frozen BA.out 1
      have hf2 := blk_frozen BA.out 2
      have hf3 := blk_frozen BA.out 3
      have hf4 := blk_frozen BA.out 4
      have hf5 := blk_frozen BA.out 5
      have hf6 := blk_frozen BA.out 6
      have hb0 := (blk_cell BB.out 0).trans (arr7_all b k 0 hge (by decide))
      have hb1 := (blk_cell BB.out 1).trans (arr7_all b k 1 hge (by decide))
      have hb2 := (blk_cell BB.out 2).trans (arr7_all b k 2 hge (by decide))
      have hb3 := (blk_cell BB.out 3).trans (arr7_all b k 3 hge (by decide))
      have hb4 := (blk_cell BB.out 4).trans (arr7_all b k 4 hge (by decide))
      have hb5 := (blk_cell BB.out 5).trans (arr7_all b k 5 hge (by decide))
      have hb6 := (blk_cell BB.out 6).trans (arr7_all b k 6 hge (by decide))
      have hc := has_call b gB k hge wr BB.out
      have HC := Aside0.mk hc
      clear hc
      cases hh : has7 b with
      | true =>
        have HH := Aside0.mk hh
        rw [hh] at HC
        clear hh
        go_wp2_with (go_at_call 72; refine HC.out.mono ?_; rintro e w3 ⟨rfl, nd, rfl⟩; have HA2 := blk_drewN BA.out nd; have HB2 := pw_below_drewN HB.out nd)
        refine bodyPost_ret (results_ct (p := 2) (u := 3) (ty := 42) rfl _ _ gA 42 zero42 (0, 0) _ rfl (blk_put (cs := zero42) (blk_put (cs := zero42) (blk_put (cs := zero42) (blk_put (cs := zero42) (blk_put (cs := zero42) (blk_put (cs := zero42) (blk_put (cs := zero42) HA2 0 _ rfl) 1 _ rfl) 2 _ rfl) 3 _ rfl) 4 _ rfl) 5 _ rfl) 6 _ rfl) Try.underlying42 rfl (by kernel_rfl)) rfl ⟨?_, (below_set (below_set (below_set (below_set (below_set (below_set (below_set HB2 GA.out) GA.out) GA.out) GA.out) GA.out) GA.out) GA.out)⟩
        show Ending.returned bad42 = _
        rw [← HT.out, whole, if_neg (fun h => by have h1 := h.1; rw [HH.out] at h1; exact absurd h1 (by decide))]
      | false =>
        have HH := Aside0.mk hh
        rw [hh] at HC
        clear hh
        by_cases c6 : numAt b 6 = ((b.size - 29 : Nat) : Int)
        · have C6 := Aside0.mk c6
          have d6 : (numAt b 6 == ((b.size - 29 : Nat) : Int)) = true := beq_iff_eq.2 c6
          have d5 : (numAt b 6 != ((b.size - 29 : Nat) : Int)) = false := bne_eq_false_iff_eq.2 c6
          clear c6
          by_cases c7 : ((b.size - 29 : Nat) : Int) ≤ 1000
          · go_wp2_with (go_at_call 72; refine HC.out.mono ?_; rintro e w3 ⟨rfl, nd, rfl⟩; have HA2 := blk_drewN BA.out nd; have HB2 := pw_below_drewN HB.out nd)
            refine bodyPost_ret (results_ct (p := 2) (u := 3) (ty := 42) rfl _ _ gA 42 #[.int .i64 (numAt b 0), .int .i64 (numAt b 1), .int .i64 (numAt b 2), .int .i64 (numAt b 3), .int .i64 (numAt b 4), .int .i64 (numAt b 5), .string (b.extract 29 b.size)] (0, 0) _ rfl (blk_put (cs := #[.int .i64 (numAt b 0), .int .i64 (numAt b 1), .int .i64 (numAt b 2), .int .i64 (numAt b 3), .int .i64 (numAt b 4), .int .i64 (numAt b 5), .string (⟨#[]⟩ : ByteArray)]) (cs' := #[.int .i64 (numAt b 0), .int .i64 (numAt b 1), .int .i64 (numAt b 2), .int .i64 (numAt b 3), .int .i64 (numAt b 4), .int .i64 (numAt b 5), .string (b.extract 29 b.size)]) (blk_put (cs := #[.int .i64 (numAt b 0), .int .i64 (numAt b 1), .int .i64 (numAt b 2), .int .i64 (numAt b 3), .int .i64 (numAt b 4), .int .i64 0, .string (⟨#[]⟩ : ByteArray)]) (cs' := #[.int .i64 (numAt b 0), .int .i64 (numAt b 1), .int .i64 (numAt b 2), .int .i64 (numAt b 3), .int .i64 (numAt b 4), .int .i64 (numAt b 5), .string (⟨#[]⟩ : ByteArray)]) (blk_put (cs := #[.int .i64 (numAt b 0), .int .i64 (numAt b 1), .int .i64 (numAt b 2), .int .i64 (numAt b 3), .int .i64 0, .int .i64 0, .string (⟨#[]⟩ : ByteArray)]) (cs' := #[.int .i64 (numAt b 0), .int .i64 (numAt b 1), .int .i64 (numAt b 2), .int .i64 (numAt b 3), .int .i64 (numAt b 4), .int .i64 0, .string (⟨#[]⟩ : ByteArray)]) (blk_put (cs := #[.int .i64 (numAt b 0), .int .i64 (numAt b 1), .int .i64 (numAt b 2), .int .i64 0, .int .i64 0, .int .i64 0, .string (⟨#[]⟩ : ByteArray)]) (cs' := #[.int .i64 (numAt b 0), .int .i64 (numAt b 1), .int .i64 (numAt b 2), .int .i64 (numAt b 3), .int .i64 0, .int .i64 0, .string (⟨#[]⟩ : ByteArray)]) (blk_put (cs := #[.int .i64 (numAt b 0), .int .i64 (numAt b 1), .int .i64 0, .int .i64 0, .int .i64 0, .int .i64 0, .string (⟨#[]⟩ : ByteArray)]) (cs' := #[.int .i64 (numAt b 0), .int .i64 (numAt b 1), .int .i64 (numAt b 2), .int .i64 0, .int .i64 0, .int .i64 0, .string (⟨#[]⟩ : ByteArray)]) (blk_put (cs := #[.int .i64 (numAt b 0), .int .i64 0, .int .i64 0, .int .i64 0, .int .i64 0, .int .i64 0, .string (⟨#[]⟩ : ByteArray)]) (cs' := #[.int .i64 (numAt b 0), .int .i64 (numAt b 1), .int .i64 0, .int .i64 0, .int .i64 0, .int .i64 0, .string (⟨#[]⟩ : ByteArray)]) (blk_put (cs := #[.int .i64 0, .int .i64 0, .int .i64 0, .int .i64 0, .int .i64 0, .int .i64 0, .string (⟨#[]⟩ : ByteArray)]) (cs' := #[.int .i64 (numAt b 0), .int .i64 0, .int .i64 0, .int .i64 0, .int .i64 0, .int .i64 0, .string (⟨#[]⟩ : ByteArray)]) HA2 0 _ rfl) 1 _ rfl) 2 _ rfl) 3 _ rfl) 4 _ rfl) 5 _ rfl) 6 _ rfl) Try.underlying42 rfl (by kernel_rfl)) rfl ⟨?_, (below_set (below_set (below_set (below_set (below_set (below_set (below_set HB2 GA.out) GA.out) GA.out) GA.out) GA.out) GA.out) GA.out)⟩
            show Ending.returned (good42 b) = _
            rw [← HT.out, whole, if_pos ⟨HH.out, C6.out, c7⟩]
          · have d7 : 1000 < ((b.size - 29 : Nat) : Int) := by omega
            have C7 := Aside0.mk c7
            clear c7
            go_wp2_with (go_at_call 72; refine HC.out.mono ?_; rintro e w3 ⟨rfl, nd, rfl⟩; have HA2 := blk_drewN BA.out nd; have HB2 := pw_below_drewN HB.out nd)
            refine bodyPost_ret (results_ct (p := 2) (u := 3) (ty := 42) rfl _ _ gA 42 zero42 (0, 0) _ rfl (blk_put (cs := zero42) (blk_put (cs := zero42) (blk_put (cs := zero42) (blk_put (cs := zero42) (blk_put (cs := zero42) (blk_put (cs := zero42) (blk_put (cs := zero42) HA2 0 _ rfl) 1 _ rfl) 2 _ rfl) 3 _ rfl) 4 _ rfl) 5 _ rfl) 6 _ rfl) Try.underlying42 rfl (by kernel_rfl)) rfl ⟨?_, (below_set (below_set (below_set (below_set (below_set (below_set (below_set HB2 GA.out) GA.out) GA.out) GA.out) GA.out) GA.out) GA.out)⟩
            show Ending.returned bad42 = _
            rw [← HT.out, whole, if_neg (fun h => by have h1 := C7.out; have h2 := h.2.2; omega)]
        · have C6 := Aside0.mk c6
          have d6 : (numAt b 6 == ((b.size - 29 : Nat) : Int)) = false := beq_eq_false_iff_ne.2 c6
          have d7 : (numAt b 6 != ((b.size - 29 : Nat) : Int)) = true := bne_iff_ne.2 c6
          clear c6
          go_wp2_with (go_at_call 72; refine HC.out.mono ?_; rintro e w3 ⟨rfl, nd, rfl⟩; have HA2 := blk_drewN BA.out nd; have HB2 := pw_below_drewN HB.out nd)
          refine bodyPost_ret (results_ct (p := 2) (u := 3) (ty := 42) rfl _ _ gA 42 zero42 (0, 0) _ rfl (blk_put (cs := zero42) (blk_put (cs := zero42) (blk_put (cs := zero42) (blk_put (cs := zero42) (blk_put (cs := zero42) (blk_put (cs := zero42) (blk_put (cs := zero42) HA2 0 _ rfl) 1 _ rfl) 2 _ rfl) 3 _ rfl) 4 _ rfl) 5 _ rfl) 6 _ rfl) Try.underlying42 rfl (by kernel_rfl)) rfl ⟨?_, (below_set (below_set (below_set (below_set (below_set (below_set (below_set HB2 GA.out) GA.out) GA.out) GA.out) GA.out) GA.out) GA.out)⟩
          show Ending.returned bad42 = _
          rw [← HT.out, whole, if_neg (fun h => C6.out h.2.1)]
set_option maxRecDepth 100000 in
set_option maxHeartbeats 1000000 in
theorem dec_short (b : ByteArray) (hs : b.size < 29) (w : World) : Calls Try.prog 29 #[.string b] w fun e w' => e = .returned bad42 ∧ Below w.heap.size w w' := by
  have hu42 := Try.underlying42
  have hb : decide ((b.size : Int) < 29) = true := by simp; omega
  go_enter Try.func29, Try.ntmps29
  go_wp2_with ((with_reducible refine gate_dst (N := 2) rfl ?_); refine box_event ?hg (N := 2) ?hd (cs := zero42) (t := 42) ?hr ?_; (case hd => rfl); (case hg => rfl); (case hr => first | (go_simp; done) | (go_simp; rfl)); intro gA hgA w1 hbA hbb; have GA := Aside0.mk (show w.heap.size ≤ gA by rw [hgA]; exact Nat.le_refl _); have HA2 := hbA; have HB2 := below_step (Below.refl w.heap.size w) hbb; have ha0 := (blk_cell hbA 0).trans (show zero42[0]? = some (.int .i64 0) from rfl); have ha1 := (blk_cell hbA 1).trans (show zero42[1]? = some (.int .i64 0) from rfl); have ha2 := (blk_cell hbA 2).trans (show zero42[2]? = some (.int .i64 0) from rfl); have ha3 := (blk_cell hbA 3).trans (show zero42[3]? = some (.int .i64 0) from rfl); have ha4 := (blk_cell hbA 4).trans (show zero42[4]? = some (.int .i64 0) from rfl); have ha5 := (blk_cell hbA 5).trans (show zero42[5]? = some (.int .i64 0) from rfl); have ha6 := (blk_cell hbA 6).trans (show zero42[6]? = some (.string (⟨#[]⟩ : ByteArray)) from rfl); have hf0 := blk_frozen hbA 0; have hf1 := blk_frozen hbA 1; have hf2 := blk_frozen hbA 2; have hf3 := blk_frozen hbA 3; have hf4 := blk_frozen hbA 4; have hf5 := blk_frozen hbA 5; have hf6 := blk_frozen hbA 6; have HBx := Aside0.mk HB2; have HAx := Aside0.mk HA2; clear HA2 HB2 hbA hbb hgA)
  have HA2 := HAx.out
  have HB2 := HBx.out
  refine bodyPost_ret (results_ct (p := 2) (u := 3) (ty := 42) rfl _ _ gA 42 zero42 (0, 0) _ rfl (blk_put (cs := zero42) (blk_put (cs := zero42) (blk_put (cs := zero42) (blk_put (cs := zero42) (blk_put (cs := zero42) (blk_put (cs := zero42) (blk_put (cs := zero42) HA2 0 _ rfl) 1 _ rfl) 2 _ rfl) 3 _ rfl) 4 _ rfl) 5 _ rfl) 6 _ rfl) Try.underlying42 rfl (by kernel_rfl)) rfl ⟨?_, (below_set (below_set (below_set (below_set (below_set (below_set (below_set HB2 GA.out) GA.out) GA.out) GA.out) GA.out) GA.out) GA.out)⟩
  show Ending.returned bad42 = _
  rfl
set_option maxRecDepth 100000 in
set_option maxHeartbeats 1000000 in
theorem dec_mark (b : ByteArray) (hs : 29 ≤ b.size) (hm : ((b.extract 0 1).toList == [77]) = false) (w : World) : Calls Try.prog 29 #[.string b] w fun e w' => e = .returned bad42 ∧ Below w.heap.size w w' := by
  have hu42 := Try.underlying42
  have hb : decide ((b.size : Int) < 29) = false := by simp; omega
  go_enter Try.func29, Try.ntmps29
  go_wp2_with ((with_reducible refine gate_dst (N := 2) rfl ?_); refine box_event ?hg (N := 2) ?hd (cs := zero42) (t := 42) ?hr ?_; (case hd => rfl); (case hg => rfl); (case hr => first | (go_simp; done) | (go_simp; rfl)); intro gA hgA w1 hbA hbb; have GA := Aside0.mk (show w.heap.size ≤ gA by rw [hgA]; exact Nat.le_refl _); have HA2 := hbA; have HB2 := below_step (Below.refl w.heap.size w) hbb; have ha0 := (blk_cell hbA 0).trans (show zero42[0]? = some (.int .i64 0) from rfl); have ha1 := (blk_cell hbA 1).trans (show zero42[1]? = some (.int .i64 0) from rfl); have ha2 := (blk_cell hbA 2).trans (show zero42[2]? = some (.int .i64 0) from rfl); have ha3 := (blk_cell hbA 3).trans (show zero42[3]? = some (.int .i64 0) from rfl); have ha4 := (blk_cell hbA 4).trans (show zero42[4]? = some (.int .i64 0) from rfl); have ha5 := (blk_cell hbA 5).trans (show zero42[5]? = some (.int .i64 0) from rfl); have ha6 := (blk_cell hbA 6).trans (show zero42[6]? = some (.string (⟨#[]⟩ : ByteArray)) from rfl); have hf0 := blk_frozen hbA 0; have hf1 := blk_frozen hbA 1; have hf2 := blk_frozen hbA 2; have hf3 := blk_frozen hbA 3; have hf4 := blk_frozen hbA 4; have hf5 := blk_frozen hbA 5; have hf6 := blk_frozen hbA 6; have HBx := Aside0.mk HB2; have HAx := Aside0.mk HA2; clear HA2 HB2 hbA hbb hgA)
  have HA2 := HAx.out
  have HB2 := HBx.out
  refine bodyPost_ret (results_ct (p := 2) (u := 3) (ty := 42) rfl _ _ gA 42 zero42 (0, 0) _ rfl (blk_put (cs := zero42) (blk_put (cs := zero42) (blk_put (cs := zero42) (blk_put (cs := zero42) (blk_put (cs := zero42) (blk_put (cs := zero42) (blk_put (cs := zero42) HA2 0 _ rfl) 1 _ rfl) 2 _ rfl) 3 _ rfl) 4 _ rfl) 5 _ rfl) 6 _ rfl) Try.underlying42 rfl (by kernel_rfl)) rfl ⟨?_, (below_set (below_set (below_set (below_set (below_set (below_set (below_set HB2 GA.out) GA.out) GA.out) GA.out) GA.out) GA.out) GA.out)⟩
  show Ending.returned bad42 = _
  rfl
def isLetter (b : ByteArray) : Bool := decide (29 ≤ b.size) && ((b.extract 0 1).toList == [77]) && !(has7 b) && (numAt b 6 == ((b.size - 29 : Nat) : Int)) && decide (((b.size - 29 : Nat) : Int) ≤ 1000)
theorem isLetter_iff (b : ByteArray) : isLetter b = true ↔ (29 ≤ b.size ∧ ((b.extract 0 1).toList == [77]) = true) ∧ (has7 b = false ∧ numAt b 6 = ((b.size - 29 : Nat) : Int) ∧ ((b.size - 29 : Nat) : Int) ≤ 1000) := by
  unfold isLetter
  simp only [Bool.and_eq_true, decide_eq_true_eq, Bool.not_eq_true', beq_iff_eq]
  exact ⟨fun ⟨⟨⟨⟨a, b⟩, c⟩, d⟩, e⟩ => ⟨⟨a, b⟩, c, d, e⟩, fun ⟨⟨a, b⟩, c, d, e⟩ => ⟨⟨⟨⟨a, b⟩, c⟩, d⟩, e⟩⟩
def net_Decode.f (b : ByteArray) : Option (Int × Int × Int × Int × Int × Int × ByteArray × Int) :=
  some (if isLetter b = true then (numAt b 0, numAt b 1, numAt b 2, numAt b 3, numAt b 4, numAt b 5, b.extract 29 b.size, 0) else (0, 0, 0, 0, 0, 0, (⟨#[]⟩ : ByteArray), 2))
theorem dec_all (b : ByteArray) (w : World) : Calls Try.prog 29 #[.string b] w fun e w' => e = .returned (if isLetter b = true then good42 b else bad42) ∧ Below w.heap.size w w' := by
  by_cases c1 : 29 ≤ b.size
  · by_cases c2 : ((b.extract 0 1).toList == [77]) = true
    · refine (dec_loop b c1 c2 _ rfl w).mono ?_
      rintro e w' ⟨rfl, hb⟩
      refine ⟨congrArg Ending.returned ?_, hb⟩
      unfold whole
      by_cases c3 : has7 b = false ∧ numAt b 6 = ((b.size - 29 : Nat) : Int) ∧ ((b.size - 29 : Nat) : Int) ≤ 1000
      · rw [if_pos c3, if_pos ((isLetter_iff b).2 ⟨⟨c1, c2⟩, c3⟩)]
      · rw [if_neg c3, if_neg (fun h => c3 ((isLetter_iff b).1 h).2)]
    · refine (dec_mark b c1 (Bool.eq_false_iff.2 c2) w).mono ?_
      rintro e w' ⟨rfl, hb⟩
      exact ⟨by rw [if_neg (fun h => c2 ((isLetter_iff b).1 h).1.2)], hb⟩
  · refine (dec_short b (by omega) w).mono ?_
    rintro e w' ⟨rfl, hb⟩
    exact ⟨by rw [if_neg (fun h => c1 ((isLetter_iff b).1 h).1.1)], hb⟩
set_option maxHeartbeats 8000000 in
set_option maxRecDepth 100000 in
theorem net_Decode.calls (a0 : ByteArray) (r1 : Int) (r2 : Int) (r3 : Int) (r4 : Int) (r5 : Int) (r6 : Int) (r7 : ByteArray) (r8 : Int) (w : World) (h : net_Decode.f a0 = some (r1, r2, r3, r4, r5, r6, r7, r8)) :
    Calls Try.prog 29 #[.string a0] w fun e w' => e = .returned (.tuple #[.agg #[.int .i64 r1, .int .i64 r2, .int .i64 r3, .int .i64 r4, .int .i64 r5, .int .i64 r6, .string r7], .int .i64 r8]) ∧ Below w.heap.size w w' := by
  have hu42 := Try.underlying42
  unfold net_Decode.f at h
  refine (dec_all a0 w).mono ?_
  rintro e w' ⟨rfl, hb⟩
  refine ⟨congrArg Ending.returned ?_, hb⟩
  have h1 := Option.some.inj h
  by_cases c : isLetter a0 = true
  · rw [if_pos c] at h1 ⊢
    simp only [Prod.mk.injEq] at h1
    obtain ⟨rfl, rfl, rfl, rfl, rfl, rfl, rfl, rfl⟩ := h1
    rfl
  · rw [if_neg c] at h1 ⊢
    simp only [Prod.mk.injEq] at h1
    obtain ⟨rfl, rfl, rfl, rfl, rfl, rfl, rfl, rfl⟩ := h1
    rfl

end Go.Proofs.Ytolapikiflodfaa.PNetCodes
