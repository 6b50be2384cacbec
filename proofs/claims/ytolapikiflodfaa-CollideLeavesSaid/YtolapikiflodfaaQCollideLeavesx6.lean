import Derived.Test.YtolapikiflodfaaQCollideLeavesx0
import Derived.Test.YtolapikiflodfaaQCollideLeavesx5
import Derived.Test.YtolapikiflodfaaHs
import Derived.Test.YtolapikiflodfaaShort
import Derived.Test.YtolapikiflodfaaCol2CollideLeaves
import Derived.Test.YtolapikiflodfaaHsACollideLeaves
namespace Go.Proofs.Ytolapikiflodfaa.PCollideLeaves
open Go.RowKit Go.Proofs.YtolapikiflodfaaW.PrintWords Go.Proofs.YtolapikiflodfaaW.PrintLast Go.Proofs.YtolapikiflodfaaW.PrintMore
attribute [local go_sem] max2_int min2_int max_two min_two max_three min_three max_four min_four   -- for this text's walks alone
set_option linter.unusedVariables false
set_option linter.unusedSimpArgs false

/-! ### collide_Root: function 59 -/
def collide_Root.f (k : Nat) (a0 : Go.Proofs.Ytolapikiflodfaa.Hsh.Hs) (a1_0 : ByteArray) (a1_1 : Int) (a1_2 : Int) (l1_3 : List ByteArray) : Option (ByteArray × Bool) :=
  if l1_3.length ≤ 1000000 then (collide_opened.f k a0 a1_0 a1_1 a1_2 l1_3).bind fun x => if x.length = 0 then some ((⟨#[]⟩ : ByteArray), false) else (Go.Proofs.Ytolapikiflodfaa.Hsh.hs_call.f a0 (rd_T157 x 0).f2).bind fun t => some (t, true)
  else none
theorem collide_Root.mono : ∀ a0 a1 a2 a3 a4 k, LeO (collide_Root.f k a0 a1 a2 a3 a4) (collide_Root.f (k + 1) a0 a1 a2 a3 a4) := by
  intro a0 a1 a2 a3 a4 k
  unfold collide_Root.f
  refine LeO.ite ?_ (LeO.none _)
  exact LeO.bind (collide_opened.mono a0 a1 a2 a3 a4 k) (fun _ => LeO.refl _)
set_option maxHeartbeats 8000000 in
set_option maxRecDepth 100000 in
theorem collide_Root.calls (k : Nat) (a0 : Go.Proofs.Ytolapikiflodfaa.Hsh.Hs) (a1_0 : ByteArray) (a1_1 : Int) (a1_2 : Int) (A1_3 : Option Addr) (c1_3 : Nat) (l1_3 : List ByteArray) (r1 : ByteArray) (r2 : Bool) (w : World) (hr1_3 : Kd.C Kd.string w A1_3 l1_3.length l1_3) (hc1_3 : l1_3.length ≤ c1_3) (h : collide_Root.f k a0 a1_0 a1_1 a1_2 l1_3 = some (r1, r2)) :
    Calls Try.prog 59 #[.func (.func (a0).id) #[] #[], .agg #[.string a1_0, .int .i64 a1_1, .int .i64 a1_2, .slice A1_3 l1_3.length c1_3]] w fun e w' => e = .returned (.tuple #[.string r1, .bool r2]) ∧ Below w.heap.size w w' := by
  have hu32 := Try.underlying32
  unfold collide_Root.f at h
  split at h
  · obtain ⟨x, hx, h⟩ := Option.bind_eq_some_iff.1 h
    by_cases h0 : x.length = 0
    · rw [if_pos h0] at h
      obtain rfl := List.eq_nil_of_length_eq_zero h0
      cases h
      exact Go.Proofs.Ytolapikiflodfaa.ColCollideLeaves.root_nil k a0 a1_0 a1_1 a1_2 A1_3 c1_3 l1_3 w (by assumption) (Go.Proofs.Ytolapikiflodfaa.Short.texts_of hr1_3) hx
    · rw [if_neg h0] at h
      obtain ⟨t, ht, h⟩ := Option.bind_eq_some_iff.1 h
      cases h
      exact Go.Proofs.Ytolapikiflodfaa.ColCollideLeaves.root_some k a0 a1_0 a1_1 a1_2 A1_3 c1_3 l1_3 w hr1_3 hc1_3 x hx (by omega) _ ht
  · cases h

/-! ### annalistlaw08_awake: function 19 -/
def annalistlaw08_awake.f (k : Nat)  : Option (Bool) := (collide_Root.f k Go.Proofs.Ytolapikiflodfaa.Hsh.hs41 (⟨#[97]⟩ : ByteArray) 0 1 ([] : List ByteArray)).bind fun bt129 => (some bt129.2)
theorem annalistlaw08_awake.mono : ∀ k, LeO (annalistlaw08_awake.f k ) (annalistlaw08_awake.f (k + 1) ) := by
  intro  k
  unfold annalistlaw08_awake.f
  repeat' first
      | (with_reducible exact collide_Root.mono _ _ _ _ _ _)
      | (with_reducible exact LeO.refl _)
      | (with_reducible exact LeO.none _)
      | (with_reducible refine LeO.ite ?_ ?_)
      | (with_reducible refine LeO.bind ?_ (fun _ => ?_))
      | exact collide_Root.mono _ _ _ _ _ _
      | exact LeO.none _
      | refine LeO.ite ?_ ?_
      | refine LeO.bind ?_ (fun _ => ?_)
set_option maxHeartbeats 8000000 in
set_option maxRecDepth 100000 in
theorem annalistlaw08_awake.calls (k : Nat)  (r : Bool) (w : World) (h : annalistlaw08_awake.f k  = some r) :
    Calls Try.prog 19 #[] w fun e w' => e = .returned (.bool r) ∧ Below w.heap.size w w' := by
  have hu32 := Try.underlying32
  have HB := Aside0.mk (Below.refl w.heap.size w)
  have H : ((collide_Root.f k Go.Proofs.Ytolapikiflodfaa.Hsh.hs41 (⟨#[97]⟩ : ByteArray) 0 1 ([] : List ByteArray)).bind fun bt129 => (some bt129.2)) = some r := h
  clear h
  replace H := Option.bind_eq_some_iff.mp H
  obtain ⟨⟨t129, t130⟩, A10, H⟩ := H
  replace H : (some t130) = some r := H
  have A1 := Aside0.mk A10
  clear A10
  obtain rfl := Option.some.inj H
  go_enter Try.func19, Try.ntmps19
  go_wp2_with (first | ((with_reducible refine gate_callee (f := 59) rfl ?_); refine goesL_ (some 5) rfl rfl Try.func59 (by kernel_rfl) rfl #[.func (.func (Go.Proofs.Ytolapikiflodfaa.Hsh.hs41).id) #[] #[], .agg #[.string (⟨#[97]⟩ : ByteArray), .int .i64 0, .int .i64 1, .slice none 0 0]] rfl (by (try simp only [List.map_toArray, List.map_cons, List.map_nil]); first | done | rfl | (simp only [List.length_drop, List.length_take]; rfl)) ?_; (refine (collide_Root.calls k Go.Proofs.Ytolapikiflodfaa.Hsh.hs41 (⟨#[97]⟩ : ByteArray) 0 1 _ _ ([] : List ByteArray) t129 t130 _ ?side1 ?side2 A1.out).mono ?_); (case side1 => exact Kd.C_nil _ _); (case side2 => exact Nat.le_refl _); rintro e w2 ⟨rfl, hb⟩; refine ⟨_, rfl, ?_⟩; have n0_ := Aside0.mk (below_step (by repeat (first | (with_reducible first | exact HB.out | apply below_alloc | apply pw_below_drewN | apply below_drew1) | exact HB.out)) hb); clear HB; have HB := n0_; clear n0_; (try clear hb); (try clear hb2); (try clear hk); (try clear hi)))
  go_ret
  exact ⟨by first | rfl | (simp [errW_none, errW_some] <;> rfl) | (simp [*, errW_none, errW_some] <;> rfl), by repeat (first | (with_reducible first | exact HB.out | apply below_alloc | apply pw_below_drewN | apply below_drew1) | exact HB.out)⟩

end Go.Proofs.Ytolapikiflodfaa.PCollideLeaves
