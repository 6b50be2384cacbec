import Derived.Test.YtolapikiflodfaaQCollideLeavesx0
import Derived.Test.YtolapikiflodfaaQCollideLeavesx2
import Derived.Test.YtolapikiflodfaaRef01d
namespace Go.Proofs.Ytolapikiflodfaa.PCollideLeaves
open Go.RowKit Go.Proofs.YtolapikiflodfaaW.PrintWords Go.Proofs.YtolapikiflodfaaW.PrintLast Go.Proofs.YtolapikiflodfaaW.PrintMore
attribute [local go_sem] max2_int min2_int max_two min_two max_three min_three max_four min_four   -- for this text's walks alone
set_option linter.unusedVariables false
set_option linter.unusedSimpArgs false

/-! ### annalistref08_Five: function 42 -/
def annalistref08_Five.f (k : Nat) (a0 : ByteArray) : Option (ByteArray) := (annalistref08_weak.f k a0 5).bind fun t134 => (some t134)
theorem annalistref08_Five.mono : ∀ a0 k, LeO (annalistref08_Five.f k a0) (annalistref08_Five.f (k + 1) a0) := by
  intro a0 k
  unfold annalistref08_Five.f
  repeat' first
      | (with_reducible exact annalistref08_weak.mono _ _ _)
      | (with_reducible exact LeO.refl _)
      | (with_reducible exact LeO.none _)
      | (with_reducible refine LeO.ite ?_ ?_)
      | (with_reducible refine LeO.bind ?_ (fun _ => ?_))
      | exact annalistref08_weak.mono _ _ _
      | exact LeO.none _
      | refine LeO.ite ?_ ?_
      | refine LeO.bind ?_ (fun _ => ?_)
set_option maxHeartbeats 8000000 in
set_option maxRecDepth 100000 in
theorem annalistref08_Five.calls (k : Nat) (a0 : ByteArray) (r : ByteArray) (w : World) (h : annalistref08_Five.f k a0 = some r) :
    Calls Try.prog 42 #[.string a0] w fun e w' => e = .returned (.string r) ∧ Below w.heap.size w w' := by
  have HB := Aside0.mk (Below.refl w.heap.size w)
  have H : ((annalistref08_weak.f k a0 5).bind fun t134 => (some t134)) = some r := h
  clear h
  replace H := Option.bind_eq_some_iff.mp H
  obtain ⟨t134, A20, H⟩ := H
  replace H : (some t134) = some r := H
  have A2 := Aside0.mk A20
  clear A20
  obtain rfl := Option.some.inj H
  go_enter Try.func42, Try.ntmps42
  go_wp2_with (first | ((with_reducible refine gate_callee (f := 82) rfl ?_); refine goesL_ (some 4) rfl rfl Try.func82 (by kernel_rfl) rfl #[.string a0, .int .i64 5] rfl (by (try simp only [List.map_toArray, List.map_cons, List.map_nil]); first | done | rfl | (simp only [List.length_drop, List.length_take]; rfl)) ?_; (with_reducible refine (annalistref08_weak.calls k a0 5 t134 _ A2.out).mono ?_); rintro e w3 ⟨rfl, hb⟩; refine ⟨_, rfl, ?_⟩; have n0_ := Aside0.mk (below_step (by repeat (first | (with_reducible first | exact HB.out | apply below_alloc | apply pw_below_drewN | apply below_drew1) | exact HB.out)) hb); clear HB; have HB := n0_; clear n0_; (try clear hb); (try clear hb2); (try clear hk); (try clear hi)))
  go_ret
  exact ⟨by first | rfl | (simp [errW_none, errW_some] <;> rfl) | (simp [*, errW_none, errW_some] <;> rfl), by repeat (first | (with_reducible first | exact HB.out | apply below_alloc | apply pw_below_drewN | apply below_drew1) | exact HB.out)⟩

-- NOT PRINTED: function 110 (annalistref01_K)

-- NOT PRINTED: function 111 (annalistref01_H)

/-! ### annalistref01_right: function 131 -/
def annalistref01_right.f (a0 : Int) (a1 : Int) : Option (Int) := if 0 ≤ a1 then (some (Int.tmod (shr .u64 (IntKind.u64.wrap ((IntKind.u64.wrap (a0 * 4294967296)) + a0)) a1) 4294967296)) else (none)
set_option maxHeartbeats 8000000 in
set_option maxRecDepth 100000 in
theorem annalistref01_right.calls (a0 : Int) (a1 : Int) (r : Int) (w : World) (h : annalistref01_right.f a0 a1 = some r) :
    Calls Try.prog 131 #[.int .u64 a0, .int .u64 a1] w fun e w' => e = .returned (.int .u64 r) ∧ Drawn0 w w' := by
  have H : (if 0 ≤ a1 then (some (Int.tmod (shr .u64 (IntKind.u64.wrap ((IntKind.u64.wrap (a0 * 4294967296)) + a0)) a1) 4294967296)) else (none)) = some r := h
  clear h
  by_cases c3 : 0 ≤ a1
  · rw [if_pos c3] at H
    have c3b0 := eq_true c3
    have c3b1 : decide (0 ≤ a1) = true := decide_eq_true c3
    clear c3
    obtain ⟨ji4, hji4⟩ : ∃ j_ : Int, (shr .u64 (IntKind.u64.wrap ((IntKind.u64.wrap (a0 * 4294967296)) + a0)) a1) = j_ := ⟨_, rfl⟩
    replace H : (some (Int.tmod (ji4) 4294967296)) = some r := by first | (rw [hji4] at H; exact H) | (simp only [hji4] at H ⊢; exact H)
    have hji4_ : ((IntKind.u64.wrap ((IntKind.u64.wrap (a0 * 4294967296)) + a0)) / 2 ^ min a1.toNat 64) = ji4 := hji4
    have hji4z : a1 ≤ 64 → ((IntKind.u64.wrap ((IntKind.u64.wrap (a0 * 4294967296)) + a0)) / 2 ^ a1.toNat) = ji4 := shr_small hji4
    obtain rfl := Option.some.inj H
    go_enter Try.func131, Try.ntmps131
    go_wp2
    go_ret
    exact ⟨by first | rfl | (simp; done) | (simp only [← hji4] <;> (first | rfl | simp)) | (simp [*]; done), by repeat (first | exact Drawn0.refl _ | apply Drawn0.step)⟩
  · rw [if_neg c3] at H
    exact absurd H (by simp)

-- NOT PRINTED: function 112 (annalistref01_block)

/-! ### annalistref01_Sum: function 83 -/
def annalistref01_Sum.f (a0 : ByteArray) : Option (ByteArray) := if a0.size ≤ 1000000000 then some (Go.Proofs.Ytolapikiflodfaa.Ref01.sumF a0) else none
set_option maxHeartbeats 8000000 in
set_option maxRecDepth 100000 in
theorem annalistref01_Sum.calls (a0 : ByteArray) (r : ByteArray) (w : World) (h : annalistref01_Sum.f a0 = some r) :
    Calls Try.prog 83 #[.string a0] w fun e w' => e = .returned (.string r) ∧ Below w.heap.size w w' := by
  unfold annalistref01_Sum.f at h
  split at h
  · cases h
    exact Go.Proofs.Ytolapikiflodfaa.Ref01.sum_c a0 (by assumption) w
  · cases h

/-! ### annalistref08_Full: function 43 -/
def annalistref08_Full.f (a0 : ByteArray) : Option (ByteArray) := (annalistref01_Sum.f a0).bind fun t135 => (some t135)
set_option maxHeartbeats 8000000 in
set_option maxRecDepth 100000 in
theorem annalistref08_Full.calls (a0 : ByteArray) (r : ByteArray) (w : World) (h : annalistref08_Full.f a0 = some r) :
    Calls Try.prog 43 #[.string a0] w fun e w' => e = .returned (.string r) ∧ Below w.heap.size w w' := by
  have HB := Aside0.mk (Below.refl w.heap.size w)
  have H : ((annalistref01_Sum.f a0).bind fun t135 => (some t135)) = some r := h
  clear h
  replace H := Option.bind_eq_some_iff.mp H
  obtain ⟨t135, A20, H⟩ := H
  replace H : (some t135) = some r := H
  have A2 := Aside0.mk A20
  clear A20
  obtain rfl := Option.some.inj H
  go_enter Try.func43, Try.ntmps43
  go_wp2_with (first | ((with_reducible refine gate_callee (f := 83) rfl ?_); refine goesL_ (some 4) rfl rfl Try.func83 (by kernel_rfl) rfl #[.string a0] rfl (by (try simp only [List.map_toArray, List.map_cons, List.map_nil]); first | done | rfl | (simp only [List.length_drop, List.length_take]; rfl)) ?_; (with_reducible refine (annalistref01_Sum.calls a0 t135 _ A2.out).mono ?_); rintro e w3 ⟨rfl, hb⟩; refine ⟨_, rfl, ?_⟩; have n0_ := Aside0.mk (below_step (by repeat (first | (with_reducible first | exact HB.out | apply below_alloc | apply pw_below_drewN | apply below_drew1) | exact HB.out)) hb); clear HB; have HB := n0_; clear n0_; (try clear hb); (try clear hb2); (try clear hk); (try clear hi)))
  go_ret
  exact ⟨by first | rfl | (simp [errW_none, errW_some] <;> rfl) | (simp [*, errW_none, errW_some] <;> rfl), by repeat (first | (with_reducible first | exact HB.out | apply below_alloc | apply pw_below_drewN | apply below_drew1) | exact HB.out)⟩

end Go.Proofs.Ytolapikiflodfaa.PCollideLeaves
