/- Here is proved: what ranges.Right tells. Condition: bits.OnesCount has its contract. -/
import Derived.Test.YtolapikiflodfaaRng2
import Derived.Deep.QuietTactic
import Derived.BigQuiet
import Derived.Lib.SliceRun
namespace Go.Proofs.Ytolapikiflodfaa.Rng
open Go Go.Proofs Go.RowKit Go.Shelf

theorem below_drawn {B : Nat} {a b : World} (h : Below B a b) (n : Nat) : Below B a (b.drewN n) := ⟨h.os, h.tape, h.output, h.size, h.block⟩
def OnesC (oc : Int → Int) : Prop := ∀ (a : Int) (w : World), Calls Try.prog 78 #[.int .u64 a] w fun e w2 => e = .returned (.int .i64 (oc a)) ∧ ∃ m, w2 = w.drewN m
theorem Texts.later {w : World} {A : Option Addr} {l : List ByteArray} (h : Texts w A l) (o : Obj) (n : Nat) : Texts ((w.alloc o).drewN n) A l := by
  intro j hj
  obtain ⟨ad, e, hc⟩ := h j hj
  exact ⟨ad, e, Lib.cell?_alloc_some o hc⟩
def rightB (oc : Int → Int) (size : Int) (l : List ByteArray) : Bool := decide (0 ≤ size ∧ size ≤ 1073741824) && (((l.length : Int) == oc size) && l.all fun s => s.size == 32)

set_option maxRecDepth 100000 in
set_option maxHeartbeats 2000000 in
theorem right_c (oc : Int → Int) (HO : OnesC oc) (size : Int) (A : Option Addr) (c : Nat) (l : List ByteArray) (w : World) (hl : l.length ≤ maxLen) (ht : Texts w A l) :
    Calls Try.prog 38 #[.agg #[.int .i64 size, .slice A l.length c]] w fun e w2 => e = .returned (.bool (rightB oc size l)) ∧ Below w.heap.size w w2 := by
  have hb : ∀ q, Below w.heap.size w ((w.alloc (.cells #[.int .i64 size, .slice A l.length c] 60)).drewN q) := fun q => below_drawn ((Below.refl _ w).alloc (Nat.le_refl _) _) q
  by_cases h0 : 0 ≤ size
  · by_cases h1 : size ≤ 1073741824
    · have hcall : ∀ q, Calls Try.prog 78 #[.int .u64 size] ((w.alloc (.cells #[.int .i64 size, .slice A l.length c] 60)).drewN q) fun e w2 => e = .returned (.int .i64 (oc size)) ∧ ∃ m, w2 = (w.alloc (.cells #[.int .i64 size, .slice A l.length c] 60)).drewN m := fun q => Calls.quiet_of (HO size _)
      have HC := Lib.hid hcall
      by_cases h2 : (l.length : Int) = oc size
      · obtain ⟨b, hbb⟩ : ∃ b, (!l.all fun s => s.size == 32) = b := ⟨_, rfl⟩
        have hcall2 : ∀ q, Calls Try.prog 79 #[.slice A l.length c, .func (.func 80) #[] #[]] ((w.alloc (.cells #[.int .i64 size, .slice A l.length c] 60)).drewN q) fun e w2 => e = .returned (.bool b) ∧ ∃ m, w2 = (w.alloc (.cells #[.int .i64 size, .slice A l.length c] 60)).drewN m := fun q => Calls.quiet_of_same (anyBad_c A c l _ hl (ht.later _ q) b hbb)
        have HC2 := Lib.hid hcall2
        have HR : Hid (rightB oc size l = !b) := Lib.hid (by unfold rightB; rw [← hbb, h2]; simp [h0, h1])
        have h2' : ((l.length : Int) == oc size) = true := by simp [h2]
        have HB := Lib.hid hb
        clear hcall hcall2 hbb ht hb h2
        unfold maxLen at hl
        go_enter Try.func38, Try.ntmps38
        go_wp2_with fail
        go_quiet ((first | (go_at_call 78; exact HC.out _) | (go_at_call 79; exact HC2.out _)))
        go_wp2
        go_ret
        cases b with
        | false => exact ⟨by rw [HR.out]; simp, HB.out _⟩
        | true => exact ⟨by rw [HR.out]; simp, HB.out _⟩
      · have HR : Hid (rightB oc size l = false) := Lib.hid (by unfold rightB; simp [h2])
        have h2' : ((l.length : Int) == oc size) = false := by simp [h2]
        have HB := Lib.hid hb
        clear hcall ht hb h2
        unfold maxLen at hl
        go_enter Try.func38, Try.ntmps38
        go_wp2_with fail
        go_quiet ((go_at_call 78; exact HC.out _))
        go_wp2
        go_ret
        exact ⟨by rw [HR.out]; simp, HB.out _⟩
    · have HR : Hid (rightB oc size l = false) := Lib.hid (by unfold rightB; simp [h1])
      have h1' : decide (size ≤ 1073741824) = false := decide_eq_false h1
      have HB := Lib.hid hb
      clear ht hb
      go_enter Try.func38, Try.ntmps38
      go_wp2_with fail
      go_quiet (fail)
      go_wp2
      go_ret
      exact ⟨by rw [HR.out]; simp, HB.out _⟩
  · have HR : Hid (rightB oc size l = false) := Lib.hid (by unfold rightB; simp [h0])
    have h1' : decide (0 ≤ size) = false := decide_eq_false h0
    have HB := Lib.hid hb
    clear ht hb
    go_enter Try.func38, Try.ntmps38
    go_wp2_with fail
    go_quiet (fail)
    go_wp2
    go_ret
    exact ⟨by rw [HR.out]; simp, HB.out _⟩
end Go.Proofs.Ytolapikiflodfaa.Rng
