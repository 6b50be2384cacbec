import Derived.Test.YtolapikiflodfaaQNetCodesx0
import Derived.Test.YtolapikiflodfaaQNetCodesx11
namespace Go.Proofs.Ytolapikiflodfaa.PNetCodes
open Go.RowKit Go.Proofs.YtolapikiflodfaaW.PrintWords Go.Proofs.YtolapikiflodfaaW.PrintLast Go.Proofs.YtolapikiflodfaaW.PrintMore
attribute [local go_sem] max2_int min2_int max_two min_two max_three min_three max_four min_four   -- for this text's walks alone
set_option linter.unusedVariables false
set_option linter.unusedSimpArgs false

/-! ### annalistref22_Bytes: function 30 -/
/-- the i-th of six numbers -/
def six (a0 a1 a2 a3 a4 a5 : Int) : Nat → Int
  | 0 => a0 | 1 => a1 | 2 => a2 | 3 => a3 | 4 => a4 | _ => a5
def arr6 (a0 a1 a2 a3 a4 a5 : Int) : Array Value := #[.int .i64 a0, .int .i64 a1, .int .i64 a2, .int .i64 a3, .int .i64 a4, .int .i64 a5]
theorem arr6_get (a0 a1 a2 a3 a4 a5 : Int) (k : Nat) (hk : k < 6) : (arr6 a0 a1 a2 a3 a4 a5)[k]? = some (.int .i64 (six a0 a1 a2 a3 a4 a5 k)) := by
  match k, hk with
  | 0, _ => rfl
  | 1, _ => rfl
  | 2, _ => rfl
  | 3, _ => rfl
  | 4, _ => rfl
  | 5, _ => rfl
def zero109 : Array Value := #[.int .i64 0, .int .i64 0, .int .i64 0, .int .i64 0, .int .i64 0, .int .i64 0]
def put6 (w : World) (g : Nat) (a0 a1 a2 a3 a4 a5 : Int) : World := ((((((w.setCell ⟨g, 0, none⟩ (.int .i64 a0)).setCell ⟨g, 1, none⟩ (.int .i64 a1)).setCell ⟨g, 2, none⟩ (.int .i64 a2)).setCell ⟨g, 3, none⟩ (.int .i64 a3)).setCell ⟨g, 4, none⟩ (.int .i64 a4)).setCell ⟨g, 5, none⟩ (.int .i64 a5))
theorem put6_blk {w : World} {g t : Nat} (a0 a1 a2 a3 a4 a5 : Int) (h : w.heap[g]? = some (.cells zero109 t (0, 0))) : (put6 w g a0 a1 a2 a3 a4 a5).heap[g]? = some (.cells (arr6 a0 a1 a2 a3 a4 a5) t (0, 0)) := (blk_put (cs := #[.int .i64 a0, .int .i64 a1, .int .i64 a2, .int .i64 a3, .int .i64 a4, .int .i64 0]) (cs' := #[.int .i64 a0, .int .i64 a1, .int .i64 a2, .int .i64 a3, .int .i64 a4, .int .i64 a5]) (blk_put (cs := #[.int .i64 a0, .int .i64 a1, .int .i64 a2, .int .i64 a3, .int .i64 0, .int .i64 0]) (cs' := #[.int .i64 a0, .int .i64 a1, .int .i64 a2, .int .i64 a3, .int .i64 a4, .int .i64 0]) (blk_put (cs := #[.int .i64 a0, .int .i64 a1, .int .i64 a2, .int .i64 0, .int .i64 0, .int .i64 0]) (cs' := #[.int .i64 a0, .int .i64 a1, .int .i64 a2, .int .i64 a3, .int .i64 0, .int .i64 0]) (blk_put (cs := #[.int .i64 a0, .int .i64 a1, .int .i64 0, .int .i64 0, .int .i64 0, .int .i64 0]) (cs' := #[.int .i64 a0, .int .i64 a1, .int .i64 a2, .int .i64 0, .int .i64 0, .int .i64 0]) (blk_put (cs := #[.int .i64 a0, .int .i64 0, .int .i64 0, .int .i64 0, .int .i64 0, .int .i64 0]) (cs' := #[.int .i64 a0, .int .i64 a1, .int .i64 0, .int .i64 0, .int .i64 0, .int .i64 0]) (blk_put (cs := #[.int .i64 0, .int .i64 0, .int .i64 0, .int .i64 0, .int .i64 0, .int .i64 0]) (cs' := #[.int .i64 a0, .int .i64 0, .int .i64 0, .int .i64 0, .int .i64 0, .int .i64 0]) h 0 _ rfl) 1 _ rfl) 2 _ rfl) 3 _ rfl) 4 _ rfl) 5 _ rfl)
theorem put6_far {w : World} {g g' t : Nat} {cs : Array Value} (a0 a1 a2 a3 a4 a5 : Int) (h : w.heap[g']? = some (.cells cs t (0, 0))) (hne : g' ≠ g) : (put6 w g a0 a1 a2 a3 a4 a5).heap[g']? = some (.cells cs t (0, 0)) := (blk_far (blk_far (blk_far (blk_far (blk_far (blk_far h hne _) hne _) hne _) hne _) hne _) hne _)
theorem put6_below {w0 w : World} {g : Nat} (a0 a1 a2 a3 a4 a5 : Int) (h : Below w0.heap.size w0 w) (hg : w0.heap.size ≤ g) : Below w0.heap.size w0 (put6 w g a0 a1 a2 a3 a4 a5) := (below_set (below_set (below_set (below_set (below_set (below_set h hg) hg) hg) hg) hg) hg)
/-- a number's four bytes -/
def num4 (a : Int) : ByteArray := (annalistref02_Number.f a).getD ⟨#[]⟩
theorem num4_some (a : Int) : annalistref02_Number.f a = some (num4 a) := by
  unfold num4 annalistref02_Number.f
  split
  · rfl
  · split <;> rfl
theorem num4_size (a : Int) : (num4 a).size = 4 := by
  unfold num4 annalistref02_Number.f
  split
  · rfl
  · split <;> rfl
theorem text_some (a : ByteArray) (h : a.size ≤ 1000000) : annalistref02_Text.f a = some (num4 a.size ++ a) := by
  unfold annalistref02_Text.f
  rw [num4_some, Option.bind_some, if_pos (by rw [num4_size]; omega)]
def pre22 (f : Nat → Int) : Nat → ByteArray
  | 0 => ⟨#[77]⟩
  | k + 1 => pre22 f k ++ num4 (f k)
theorem pre22_size (f : Nat → Int) (k : Nat) : (pre22 f k).size = 1 + 4 * k := by
  induction k with
  | zero => rfl
  | succ k ih => rw [pre22, ByteArray.size_append, ih, num4_size]; omega
set_option maxRecDepth 100000 in
set_option maxHeartbeats 1000000 in
theorem bytes_c (a0 a1 a2 a3 a4 a5 : Int) (a6 : ByteArray) (h6 : a6.size ≤ 1000000) (r : ByteArray) (hr : pre22 (six a0 a1 a2 a3 a4 a5) 6 ++ (num4 a6.size ++ a6) = r) (w : World) :
    Calls Try.prog 30 #[.agg #[.int .i64 a0, .int .i64 a1, .int .i64 a2, .int .i64 a3, .int .i64 a4, .int .i64 a5, .string a6]] w fun e w' => e = .returned (.string r) ∧ Below w.heap.size w w' := by
  have HR := Aside0.mk hr
  clear hr
  have hu42 := Try.underlying42
  go_enter Try.func30, Try.ntmps30
  go_wp2_with (first
    | ((with_reducible refine gate_dst (N := 1) rfl ?_); refine box_event ?hg (N := 1) ?hd (cs := #[.int .i64 a0, .int .i64 a1, .int .i64 a2, .int .i64 a3, .int .i64 a4, .int .i64 a5, .string a6]) (t := 42) ?hr ?_; (case hd => rfl); (case hg => rfl); (case hr => first | (go_simp; done) | (go_simp; rfl)); intro gA hgA w1 hbA hbb; have GA := Aside0.mk (show w.heap.size ≤ gA by rw [hgA]; exact Nat.le_refl _); have BA := Aside0.mk hbA; have HB := Aside0.mk (below_step (Below.refl w.heap.size w) hbb); clear hbA hbb hgA; have ha0 := (blk_cell BA.out 0).trans (rfl); have ha1 := (blk_cell BA.out 1).trans (rfl); have ha2 := (blk_cell BA.out 2).trans (rfl); have ha3 := (blk_cell BA.out 3).trans (rfl); have ha4 := (blk_cell BA.out 4).trans (rfl); have ha5 := (blk_cell BA.out 5).trans (rfl))
    | ((with_reducible refine gate_dst (N := 4) rfl ?_); refine box_event ?hg (N := 4) ?hd (cs := zero109) (t := 109) ?hr ?_; (case hd => rfl); (case hg => rfl); (case hr => first | (go_simp; done) | (go_simp; rfl)); intro gB hgB w2 hbB hbb; clear ha0 ha1 ha2 ha3 ha4 ha5; have GB := Aside0.mk (show w.heap.size ≤ gB by rw [hgB]; exact HB.out.size); have NAB := Aside0.mk (show gA ≠ gB by rw [hgB]; exact Nat.ne_of_lt (blk_lt BA.out)); have BB := Aside0.mk hbB; have n_ := Aside0.mk (below_step HB.out hbb); have n1_ := Aside0.mk (blk_below BA.out hbb); clear HB BA; have HB := n_; have BA := n1_; clear n_ n1_ hbB hbb hgB; have hb0 := (blk_cell BB.out 0).trans (show zero109[0]? = some (.int .i64 0) from rfl); have hb1 := (blk_cell BB.out 1).trans (show zero109[1]? = some (.int .i64 0) from rfl); have hb2 := (blk_cell BB.out 2).trans (show zero109[2]? = some (.int .i64 0) from rfl); have hb3 := (blk_cell BB.out 3).trans (show zero109[3]? = some (.int .i64 0) from rfl); have hb4 := (blk_cell BB.out 4).trans (show zero109[4]? = some (.int .i64 0) from rfl); have hb5 := (blk_cell BB.out 5).trans (show zero109[5]? = some (.int .i64 0) from rfl); have hf0 := blk_frozen BB.out 0; have hf1 := blk_frozen BB.out 1; have hf2 := blk_frozen BB.out 2; have hf3 := blk_frozen BB.out 3; have hf4 := blk_frozen BB.out 4; have hf5 := blk_frozen BB.out 5))
  refine (show Code.wp _ _ _ _ (put6 w2 gB a0 a1 a2 a3 a4 a5) from ?_)
  have BB2 := Aside0.mk (put6_blk a0 a1 a2 a3 a4 a5 BB.out)
  have BA2 := Aside0.mk (put6_far a0 a1 a2 a3 a4 a5 BA.out NAB.out)
  have HB2 := Aside0.mk (put6_below a0 a1 a2 a3 a4 a5 HB.out GB.out)
  clear BB BA HB hb0 hb1 hb2 hb3 hb4 hb5 hf0 hf1 hf2 hf3 hf4 hf5
  generalize put6 w2 gB a0 a1 a2 a3 a4 a5 = W at BB2 BA2 HB2 ⊢
  have hv := (blk_cell BA2.out 6).trans rfl
  go_loopw [3, 5] (fun sv v wr => ∃ k : Nat, k ≤ 6 ∧ v = .int .i64 k ∧ sv = .string (pre22 (six a0 a1 a2 a3 a4 a5) k) ∧ Aside0 (wr.heap[gB]? = some (.cells (arr6 a0 a1 a2 a3 a4 a5) 109 (0, 0))) ∧ Aside0 (wr.heap[gA]? = some (.cells #[.int .i64 a0, .int .i64 a1, .int .i64 a2, .int .i64 a3, .int .i64 a4, .int .i64 a5, .string a6] 42 (0, 0))) ∧ Aside0 (Below w.heap.size w wr)) (fun _ v _ => 6 - (intOf v).toNat)
  case atStart => exact ⟨0, Nat.zero_le _, rfl, rfl, BB2, BA2, HB2⟩
  case round =>
    obtain ⟨k, hk, rfl, rfl, BB, BA, HB⟩ := hrel
    clear hv BB2 BA2 HB2
    have hz := pre22_size (six a0 a1 a2 a3 a4 a5) k
    have HZ := Aside0.mk hz
    have hz1 : (pre22 (six a0 a1 a2 a3 a4 a5) k).size ≤ 100 := by omega
    clear hz
    by_cases hlt : k < 6
    · have hc := (blk_cell BB.out k).trans (arr6_get a0 a1 a2 a3 a4 a5 k hlt)
      have hn1 : (num4 (six a0 a1 a2 a3 a4 a5 k)).size ≤ 4 := by rw [num4_size]; exact Nat.le_refl _
      go_wp2_with (go_at_call 73; refine (annalistref02_Number.calls (six a0 a1 a2 a3 a4 a5 k) _ _ (num4_some _)).mono ?_; rintro e w3 ⟨rfl, hb3⟩; have n_ := Aside0.mk (below_step HB.out hb3); have n1_ := Aside0.mk (blk_below BA.out hb3); have n2_ := Aside0.mk (blk_below BB.out hb3); clear HB BA BB hb3; have HB := n_; have BA := n1_; have BB := n2_; clear n_ n1_ n2_)
      go_roundw
      case rel => exact ⟨k + 1, by omega, by go_num, rfl, BB, BA, HB⟩
      case measure => simp [intOf]; omega
    · have hge : 6 ≤ k := by omega
      clear hlt
      have hv := (blk_cell BA.out 6).trans (show _ = some (.string a6) from rfl)
      have HK := Aside0.mk (show pre22 (six a0 a1 a2 a3 a4 a5) k ++ (num4 a6.size ++ a6) = r by rw [show k = 6 by omega]; exact HR.out)
      have hn2 : (num4 a6.size ++ a6).size ≤ 1000004 := by rw [ByteArray.size_append, num4_size]; omega
      go_wp2_with (go_at_call 74; refine (annalistref02_Text.calls a6 _ _ (text_some a6 h6)).mono ?_; rintro e w3 ⟨rfl, hb3⟩; have n_ := Aside0.mk (below_step HB.out hb3); clear HB hb3; have HB := n_; clear n_)
      go_ret
      exact ⟨congrArg (fun z => Ending.returned (.string z)) HK.out, HB.out⟩
def annalistref22_Bytes.f (a0 a1 a2 a3 a4 a5 : Int) (a6 : ByteArray) : Option ByteArray := if a6.size ≤ 1000000 then some (pre22 (six a0 a1 a2 a3 a4 a5) 6 ++ (num4 a6.size ++ a6)) else none
set_option maxHeartbeats 8000000 in
set_option maxRecDepth 100000 in
theorem annalistref22_Bytes.calls (a0_0 : Int) (a0_1 : Int) (a0_2 : Int) (a0_3 : Int) (a0_4 : Int) (a0_5 : Int) (a0_6 : ByteArray) (r : ByteArray) (w : World) (h : annalistref22_Bytes.f a0_0 a0_1 a0_2 a0_3 a0_4 a0_5 a0_6 = some r) :
    Calls Try.prog 30 #[.agg #[.int .i64 a0_0, .int .i64 a0_1, .int .i64 a0_2, .int .i64 a0_3, .int .i64 a0_4, .int .i64 a0_5, .string a0_6]] w fun e w' => e = .returned (.string r) ∧ Below w.heap.size w w' := by
  have hu42 := Try.underlying42
  unfold annalistref22_Bytes.f at h
  by_cases c : a0_6.size ≤ 1000000
  · rw [if_pos c] at h
    exact bytes_c a0_0 a0_1 a0_2 a0_3 a0_4 a0_5 a0_6 c r (Option.some.inj h) w
  · rw [if_neg c] at h; exact absurd h (by simp)

end Go.Proofs.Ytolapikiflodfaa.PNetCodes
