import Derived.Test.YtolapikiflodfaaQCollideLeavesx0
import Derived.Test.YtolapikiflodfaaQCollideLeavesx2
import Derived.Test.YtolapikiflodfaaShort
namespace Go.Proofs.Ytolapikiflodfaa.PCollideLeaves
open Go.RowKit Go.Proofs.YtolapikiflodfaaW.PrintWords Go.Proofs.YtolapikiflodfaaW.PrintLast Go.Proofs.YtolapikiflodfaaW.PrintMore
attribute [local go_sem] max2_int min2_int max_two min_two max_three min_three max_four min_four   -- for this text's walks alone
set_option linter.unusedVariables false
set_option linter.unusedSimpArgs false

/-! ### annalistref08_Two: function 41 -/
def annalistref08_Two.f (k : Nat) (a0 : ByteArray) : Option (ByteArray) := (annalistref08_weak.f k a0 2).bind fun t105 => (some t105)
theorem annalistref08_Two.mono : ∀ a0 k, LeO (annalistref08_Two.f k a0) (annalistref08_Two.f (k + 1) a0) := by
  intro a0 k
  unfold annalistref08_Two.f
  repeat' first
      | (with_reducible exact annalistref08_weak.mono _ _ _)
      | (with_reducible exact LeO.refl _)
      | (with_reducible exact LeO.none _)
      | (with_reducible refine LeO.ite ?_ ?_)
      | (with_reducible refine LeO.bind ?_ (fun _ => ?_))
      | exact annalistref08_weak.mono _ _ _
      | exact LeO.none _
      | refine LeO.ite ?_ ?_
      | refine LeO.bind ?_ (fun _ => ?_)
set_option maxHeartbeats 8000000 in
set_option maxRecDepth 100000 in
theorem annalistref08_Two.calls (k : Nat) (a0 : ByteArray) (r : ByteArray) (w : World) (h : annalistref08_Two.f k a0 = some r) :
    Calls Try.prog 41 #[.string a0] w fun e w' => e = .returned (.string r) ∧ Below w.heap.size w w' := by
  have HB := Aside0.mk (Below.refl w.heap.size w)
  have H : ((annalistref08_weak.f k a0 2).bind fun t105 => (some t105)) = some r := h
  clear h
  replace H := Option.bind_eq_some_iff.mp H
  obtain ⟨t105, A20, H⟩ := H
  replace H : (some t105) = some r := H
  have A2 := Aside0.mk A20
  clear A20
  obtain rfl := Option.some.inj H
  go_enter Try.func41, Try.ntmps41
  go_wp2_with (first | ((with_reducible refine gate_callee (f := 82) rfl ?_); refine goesL_ (some 4) rfl rfl Try.func82 (by kernel_rfl) rfl #[.string a0, .int .i64 2] rfl (by (try simp only [List.map_toArray, List.map_cons, List.map_nil]); first | done | rfl | (simp only [List.length_drop, List.length_take]; rfl)) ?_; (with_reducible refine (annalistref08_weak.calls k a0 2 t105 _ A2.out).mono ?_); rintro e w3 ⟨rfl, hb⟩; refine ⟨_, rfl, ?_⟩; have n0_ := Aside0.mk (below_step (by repeat (first | (with_reducible first | exact HB.out | apply below_alloc | apply pw_below_drewN | apply below_drew1) | exact HB.out)) hb); clear HB; have HB := n0_; clear n0_; (try clear hb); (try clear hb2); (try clear hk); (try clear hi)))
  go_ret
  exact ⟨by first | rfl | (simp [errW_none, errW_some] <;> rfl) | (simp [*, errW_none, errW_some] <;> rfl), by repeat (first | (with_reducible first | exact HB.out | apply below_alloc | apply pw_below_drewN | apply below_drew1) | exact HB.out)⟩

-- NOT PRINTED: function 107 (slices_IndexFunc_string_string)

-- NOT PRINTED: function 79 (slices_ContainsFunc_string_string)

/-! ### collide_short: function 108 -/
def collide_short.f (l : List ByteArray) : Option (Bool) := some (!l.all fun s => s.size == 32)
set_option maxHeartbeats 8000000 in
set_option maxRecDepth 100000 in
theorem collide_short.calls (A0 : Option Addr) (c0 : Nat) (l0 : List ByteArray) (r : Bool) (w : World) (hr0 : Kd.C Kd.string w A0 l0.length l0) (hc0 : l0.length ≤ c0) (h : collide_short.f l0 = some r) :
    Calls Try.prog 108 #[.slice A0 l0.length c0] w fun e w' => e = .returned (.bool r) ∧ Drawn0 w w' := by
  obtain rfl := Option.some.inj h
  exact (Go.Proofs.Ytolapikiflodfaa.Short.short_c A0 c0 l0 w hr0.2.1 (Go.Proofs.Ytolapikiflodfaa.Short.texts_of hr0) _ rfl).mono fun _ _ ⟨he, hd⟩ => ⟨he, ⟨0, hd⟩⟩

/-! ### collide_split: function 130 -/
def collide_split.l0 : Nat → Int → Int → Option (Int)
  | 0, _, _ => none
  | k + 1, x0, x3 => if (wrap64 (2 * x3)) < x0 then (collide_split.l0 k x0 (wrap64 (x3 * 2))) else (some x3)
def collide_split.f (k : Nat) (a0 : Int) : Option (Int) := collide_split.l0 k a0 1
theorem collide_split.mono_l : ∀ k, (∀ y0 y1, LeO (collide_split.l0 k y0 y1) (collide_split.l0 (k + 1) y0 y1))
  | 0 => fun _ _ r h => by simp [collide_split.l0] at h
  | k + 1 => by
    have ih0 := collide_split.mono_l k
    · intro y0 y1
      unfold collide_split.l0
      repeat' first
      | (with_reducible exact ih0 _ _)
      | (with_reducible exact LeO.refl _)
      | (with_reducible exact LeO.none _)
      | (with_reducible refine LeO.ite ?_ ?_)
      | (with_reducible refine LeO.bind ?_ (fun _ => ?_))
      | exact ih0 _ _
      | exact LeO.none _
      | refine LeO.ite ?_ ?_
      | refine LeO.bind ?_ (fun _ => ?_)
theorem collide_split.mono : ∀ a0 k, LeO (collide_split.f k a0) (collide_split.f (k + 1) a0) := by
  intro a0 k
  have ih0 := collide_split.mono_l k
  unfold collide_split.f
  repeat' first
      | (with_reducible exact ih0 _ _)
      | (with_reducible exact LeO.refl _)
      | (with_reducible exact LeO.none _)
      | (with_reducible refine LeO.ite ?_ ?_)
      | (with_reducible refine LeO.bind ?_ (fun _ => ?_))
      | exact ih0 _ _
      | exact LeO.none _
      | refine LeO.ite ?_ ?_
      | refine LeO.bind ?_ (fun _ => ?_)
set_option maxHeartbeats 8000000 in
set_option maxRecDepth 100000 in
theorem collide_split.calls (k : Nat) (a0 : Int) (r : Int) (w : World) (h : collide_split.f k a0 = some r) :
    Calls Try.prog 130 #[.int .i64 a0] w fun e w' => e = .returned (.int .i64 r) ∧ Drawn0 w w' := by
  have H : (collide_split.l0 k a0 1) = some r := h
  clear h
  have H' := Aside0.mk H
  clear H
  go_enter Try.func130, Try.ntmps130
  go_wp2
  go_loopg [3] k (fun kq v3 w' => ∃ (x3_1 : Int), v3 = .int .i64 x3_1 ∧ Aside0 (collide_split.l0 kq a0 x3_1 = some r) ∧ Aside0 (kq ≤ k) ∧ Drawn0 w w')
  case atStart => exact ⟨(1), (by first | rfl | (simp; done) | (simp [*]; done)), H', ⟨Nat.le_refl _⟩, by repeat (first | exact Drawn0.refl _ | apply Drawn0.step)⟩
  case round =>
    clear H'
    try clear c1
    obtain ⟨x3_1, rfl, HA, HK1, ⟨m1, rfl⟩⟩ := hrel
    cases gk with
    | zero => exact absurd HA.out (by simp [collide_split.l0])
    | succ k1 =>
      have H := HA.out
      clear HA
      simp only [collide_split.l0] at H
      by_cases c2 : (wrap64 (2 * x3_1)) < a0
      · rw [if_pos c2] at H
        have c2b0 : decide ((wrap64 (2 * x3_1)) < a0) = true := decide_eq_true c2
        clear c2
        have H' := Aside0.mk H
        clear H
        go_wp2
        go_roundg k1
        case measure => have := HK1.out; omega
        case rel => exact ⟨(wrap64 (x3_1 * 2)), (by first | rfl | (simp; done) | (simp [*]; done)), H', ⟨by have := HK1.out; omega⟩, by repeat (first | exact Drawn0.refl _ | apply Drawn0.step)⟩
      · rw [if_neg c2] at H
        have c2b0 : decide ((wrap64 (2 * x3_1)) < a0) = false := decide_eq_false c2
        clear c2
        obtain rfl := Option.some.inj H
        go_wp2
        go_ret
        exact ⟨by first | rfl | (simp; done) | (simp [*]; done), by repeat (first | exact Drawn0.refl _ | apply Drawn0.step)⟩

end Go.Proofs.Ytolapikiflodfaa.PCollideLeaves
