import Derived.Test.YtolapikiflodfaaQNetCodesx0
import Derived.Test.YtolapikiflodfaaQNetCodesx12
namespace Go.Proofs.Ytolapikiflodfaa.PNetCodes
open Go.RowKit Go.Proofs.YtolapikiflodfaaW.PrintWords Go.Proofs.YtolapikiflodfaaW.PrintLast Go.Proofs.YtolapikiflodfaaW.PrintMore
attribute [local go_sem] max2_int min2_int max_two min_two max_three min_three max_four min_four   -- for this text's walks alone
set_option linter.unusedVariables false
set_option linter.unusedSimpArgs false

/-! ### annalistref22_Right: function 31 -/
def fine22 (a : Int) : Bool := decide (0 ≤ a) && decide (a ≤ 2147483647)
def all22 (f : Nat → Int) : Nat → Bool
  | 0 => true
  | k + 1 => all22 f k && fine22 (f k)
theorem all22_false (f : Nat → Int) (k : Nat) (h : fine22 (f k) = false) (n : Nat) (hn : k < n) : all22 f n = false := by
  induction n with
  | zero => omega
  | succ n ih =>
    rw [all22]
    rcases Nat.lt_or_ge k n with h1 | h1
    · rw [ih h1, Bool.false_and]
    · rw [show n = k by omega, h, Bool.and_false]
set_option maxRecDepth 100000 in
set_option maxHeartbeats 1000000 in
theorem right_c (a0 a1 a2 a3 a4 a5 : Int) (a6 : ByteArray) (r : Bool) (hr : (all22 (six a0 a1 a2 a3 a4 a5) 6 && decide ((a6.size : Int) ≤ 1000)) = r) (w : World) :
    Calls Try.prog 31 #[.agg #[.int .i64 a0, .int .i64 a1, .int .i64 a2, .int .i64 a3, .int .i64 a4, .int .i64 a5, .string a6]] w fun e w' => e = .returned (.bool r) ∧ Below w.heap.size w w' := by
  have HR := Aside0.mk hr
  clear hr
  have hu42 := Try.underlying42
  go_enter Try.func31, Try.ntmps31
  go_wp2_with (first
    | ((with_reducible refine gate_dst (N := 1) rfl ?_); refine box_event ?hg (N := 1) ?hd (cs := #[.int .i64 a0, .int .i64 a1, .int .i64 a2, .int .i64 a3, .int .i64 a4, .int .i64 a5, .string a6]) (t := 42) ?hr ?_; (case hd => rfl); (case hg => rfl); (case hr => first | (go_simp; done) | (go_simp; rfl)); intro gA hgA w1 hbA hbb; have GA := Aside0.mk (show w.heap.size ≤ gA by rw [hgA]; exact Nat.le_refl _); have BA := Aside0.mk hbA; have HB := Aside0.mk (below_step (Below.refl w.heap.size w) hbb); clear hbA hbb hgA; have ha0 := (blk_cell BA.out 0).trans (rfl); have ha1 := (blk_cell BA.out 1).trans (rfl); have ha2 := (blk_cell BA.out 2).trans (rfl); have ha3 := (blk_cell BA.out 3).trans (rfl); have ha4 := (blk_cell BA.out 4).trans (rfl); have ha5 := (blk_cell BA.out 5).trans (rfl))
    | ((with_reducible refine gate_dst (N := 3) rfl ?_); refine box_event ?hg (N := 3) ?hd (cs := zero109) (t := 109) ?hr ?_; (case hd => rfl); (case hg => rfl); (case hr => first | (go_simp; done) | (go_simp; rfl)); intro gB hgB w2 hbB hbb; clear ha0 ha1 ha2 ha3 ha4 ha5; have GB := Aside0.mk (show w.heap.size ≤ gB by rw [hgB]; exact HB.out.size); have NAB := Aside0.mk (show gA ≠ gB by rw [hgB]; exact Nat.ne_of_lt (blk_lt BA.out)); have BB := Aside0.mk hbB; have n_ := Aside0.mk (below_step HB.out hbb); have n1_ := Aside0.mk (blk_below BA.out hbb); clear HB BA; have HB := n_; have BA := n1_; clear n_ n1_ hbB hbb hgB; have hb0 := (blk_cell BB.out 0).trans (show zero109[0]? = some (.int .i64 0) from rfl); have hb1 := (blk_cell BB.out 1).trans (show zero109[1]? = some (.int .i64 0) from rfl); have hb2 := (blk_cell BB.out 2).trans (show zero109[2]? = some (.int .i64 0) from rfl); have hb3 := (blk_cell BB.out 3).trans (show zero109[3]? = some (.int .i64 0) from rfl); have hb4 := (blk_cell BB.out 4).trans (show zero109[4]? = some (.int .i64 0) from rfl); have hb5 := (blk_cell BB.out 5).trans (show zero109[5]? = some (.int .i64 0) from rfl); have hf0 := blk_frozen BB.out 0; have hf1 := blk_frozen BB.out 1; have hf2 := blk_frozen BB.out 2; have hf3 := blk_frozen BB.out 3; have hf4 := blk_frozen BB.out 4; have hf5 := blk_frozen BB.out 5))
  refine (show Code.wp _ _ _ _ (put6 w2 gB a0 a1 a2 a3 a4 a5) from ?_)
  have BB2 := Aside0.mk (put6_blk a0 a1 a2 a3 a4 a5 BB.out)
  have BA2 := Aside0.mk (put6_far a0 a1 a2 a3 a4 a5 BA.out NAB.out)
  have HB2 := Aside0.mk (put6_below a0 a1 a2 a3 a4 a5 HB.out GB.out)
  clear BB BA HB hb0 hb1 hb2 hb3 hb4 hb5 hf0 hf1 hf2 hf3 hf4 hf5
  generalize put6 w2 gB a0 a1 a2 a3 a4 a5 = W at BB2 BA2 HB2 ⊢
  have hv := (blk_cell BA2.out 6).trans rfl
  go_loop [4] (fun v => ∃ k : Nat, k ≤ 6 ∧ v = .int .i64 k ∧ Aside0 (all22 (six a0 a1 a2 a3 a4 a5) k = true)) (fun v => 6 - (intOf v).toNat)
  case atStart => exact ⟨0, Nat.zero_le _, rfl, ⟨rfl⟩⟩
  case round =>
    obtain ⟨k, hk, rfl, HA⟩ := hrel
    by_cases hlt : k < 6
    · have hc := (blk_cell BB2.out k).trans (arr6_get a0 a1 a2 a3 a4 a5 k hlt)
      by_cases h1 : six a0 a1 a2 a3 a4 a5 k < 0
      · have HF := Aside0.mk (all22_false (six a0 a1 a2 a3 a4 a5) k (by unfold fine22; rw [decide_eq_false (by omega), Bool.false_and]) 6 hlt)
        go_wp2_with fail
        go_ret
        exact ⟨congrArg (fun z => Ending.returned (.bool z)) (show false = r by rw [← HR.out, HF.out, Bool.false_and]), HB2.out⟩
      · have h2 : 0 ≤ six a0 a1 a2 a3 a4 a5 k := by omega
        by_cases h3 : six a0 a1 a2 a3 a4 a5 k ≤ 2147483647
        · have HF := Aside0.mk (show fine22 (six a0 a1 a2 a3 a4 a5 k) = true by unfold fine22; rw [decide_eq_true h2, decide_eq_true h3]; rfl)
          clear h1
          go_wp2_with fail
          go_round
          case rel => exact ⟨k + 1, by omega, by go_num, ⟨by rw [all22, HA.out, HF.out]; rfl⟩⟩
          case measure => simp [intOf]; omega
        · have HF := Aside0.mk (all22_false (six a0 a1 a2 a3 a4 a5) k (by unfold fine22; rw [decide_eq_false h3, Bool.and_false]) 6 hlt)
          have h4 : 2147483647 < six a0 a1 a2 a3 a4 a5 k := by omega
          clear h1 h3
          go_wp2_with fail
          go_ret
          exact ⟨congrArg (fun z => Ending.returned (.bool z)) (show false = r by rw [← HR.out, HF.out, Bool.false_and]), HB2.out⟩
    · have hge : 6 ≤ k := by omega
      have HA6 := Aside0.mk (show all22 (six a0 a1 a2 a3 a4 a5) 6 = true by have h := HA.out; rw [show k = 6 by omega] at h; exact h)
      clear hlt
      go_wp2_with fail
      go_ret
      exact ⟨congrArg (fun z => Ending.returned (.bool z)) (show decide ((a6.size : Int) ≤ 1000) = r by rw [← HR.out, HA6.out, Bool.true_and]), HB2.out⟩
def annalistref22_Right.f (a0 a1 a2 a3 a4 a5 : Int) (a6 : ByteArray) : Option Bool := some (all22 (six a0 a1 a2 a3 a4 a5) 6 && decide ((a6.size : Int) ≤ 1000))
set_option maxHeartbeats 8000000 in
set_option maxRecDepth 100000 in
theorem annalistref22_Right.calls (a0_0 : Int) (a0_1 : Int) (a0_2 : Int) (a0_3 : Int) (a0_4 : Int) (a0_5 : Int) (a0_6 : ByteArray) (r : Bool) (w : World) (h : annalistref22_Right.f a0_0 a0_1 a0_2 a0_3 a0_4 a0_5 a0_6 = some r) :
    Calls Try.prog 31 #[.agg #[.int .i64 a0_0, .int .i64 a0_1, .int .i64 a0_2, .int .i64 a0_3, .int .i64 a0_4, .int .i64 a0_5, .string a0_6]] w fun e w' => e = .returned (.bool r) ∧ Below w.heap.size w w' := by
  have hu42 := Try.underlying42
  exact right_c a0_0 a0_1 a0_2 a0_3 a0_4 a0_5 a0_6 r (Option.some.inj h) w

end Go.Proofs.Ytolapikiflodfaa.PNetCodes
