/- Here is proved: what the two predicates of sha.square and sha.cube answer, and what sha.greatest makes of such a predicate. Conditions: none. -/
import Derived.Test.YtolapikiflodfaaTile1
import Derived.Test.YtolapikiflodfaaShelf
namespace Go.Proofs.Ytolapikiflodfaa.Sha
open Go Go.Proofs Go.RowKit Go.Shelf
attribute [local go_sem] Oper.semAt_some

def m64 : Nat := 18446744073709551616
def isSq (p x : Nat) : Bool := let r := x * x; decide (r / 18446744073709551616 < p) || (decide (r / 18446744073709551616 = p) && decide (r % 18446744073709551616 = 0))

set_option maxHeartbeats 1000000 in
theorem sq_is (p x : Nat) (hp : p < 1000) (hx : x < 68719476736) (b : Nat) (w : World) (hb : Boxed w b 145 (.int .u64 p)) :
    Calls Try.prog 117 #[.int .u64 x, .pointer (some ⟨b, 0, none⟩)] w fun e w' => e = .returned (.bool (isSq p x)) ∧ w' = w := by
  obtain ⟨hi, hhi⟩ : ∃ h : Nat, x * x / 18446744073709551616 = h := ⟨_, rfl⟩
  obtain ⟨lo, hlo⟩ : ∃ h : Nat, x * x % 18446744073709551616 = h := ⟨_, rfl⟩
  have HM := Lib.hid (Try.bits_Mul64 x x (by omega) (by omega) w)
  rw [hhi, hlo] at HM
  have hc := hb.cell
  obtain ⟨r, hr⟩ : ∃ r, isSq p x = r := ⟨_, rfl⟩
  rw [hr]
  have HR := Lib.hid hr
  unfold isSq at hr
  simp only [hhi, hlo] at hr
  clear hhi hlo HR
  by_cases h1 : hi < p
  · simp [h1] at hr; subst hr
    go_enter Try.func117, Try.ntmps117
    go_wp2_with (refine (HM.out).mono ?_; rintro e w2 ⟨rfl, rfl⟩)
    go_ret
    exact ⟨rfl, rfl⟩
  · by_cases h2 : hi = p
    · subst h2
      by_cases h3 : lo = 0
      · subst h3
        simp at hr; subst hr
        go_enter Try.func117, Try.ntmps117
        go_wp2_with (refine (HM.out).mono ?_; rintro e w2 ⟨rfl, rfl⟩)
        go_ret
        exact ⟨rfl, rfl⟩
      · simp [h3] at hr; subst hr
        have hz : ((lo : Int) == 0) = false := by simp; exact h3
        go_enter Try.func117, Try.ntmps117
        go_wp2_with (refine (HM.out).mono ?_; rintro e w2 ⟨rfl, rfl⟩)
        go_ret
        exact ⟨rfl, rfl⟩
    · simp [h1, h2] at hr; subst hr
      go_enter Try.func117, Try.ntmps117
      go_wp2_with (refine (HM.out).mono ?_; rintro e w2 ⟨rfl, rfl⟩)
      go_ret
      exact ⟨rfl, rfl⟩

def isCu (p x : Nat) : Bool :=
  let r := x * x; let r2 := r % 18446744073709551616 * x
  let hi := r2 / 18446744073709551616 + r / 18446744073709551616 * x
  decide (hi < p * 4294967296) || (decide (hi = p * 4294967296) && decide (r2 % 18446744073709551616 = 0))

set_option maxHeartbeats 1000000 in
theorem cu_walk (p x h l hi lo m s q : Nat) (hp : p < 1000) (hm : (h : Int) * (x : Int) = (m : Int)) (hm2 : m < 100000000000000) (hq : (p : Int) * 4294967296 = (q : Int)) (hs2 : (hi : Int) + (m : Int) = (s : Int)) (hsl : s < 100000000000000) (b : Nat) (w : World) (hb : Boxed w b 145 (.int .u64 p))
    (HM : Hid (Calls Try.prog 116 #[.int .u64 x, .int .u64 x] w fun e w' => e = .returned (.tuple #[.int .u64 h, .int .u64 l]) ∧ w' = w))
    (HM2 : Hid (Calls Try.prog 116 #[.int .u64 l, .int .u64 x] w fun e w' => e = .returned (.tuple #[.int .u64 hi, .int .u64 lo]) ∧ w' = w))
    (r : Bool) (hr : (decide (s < q) || (decide (s = q) && decide (lo = 0))) = r) :
    Calls Try.prog 115 #[.int .u64 x, .pointer (some ⟨b, 0, none⟩)] w fun e w' => e = .returned (.bool r) ∧ w' = w := by
  have hc := hb.cell
  by_cases h1 : s < q
  · simp [h1] at hr; subst hr
    go_enter Try.func115, Try.ntmps115
    go_wp2_with (first | (with_reducible refine (HM.out).mono ?_; rintro e w2 ⟨rfl, rfl⟩) | (with_reducible refine (HM2.out).mono ?_; rintro e w2 ⟨rfl, rfl⟩))
    go_ret
    exact ⟨rfl, rfl⟩
  · by_cases h2 : s = q
    · have g2 : ((s : Int) == (q : Int)) = true := by rw [beq_iff_eq]; omega
      by_cases h3 : lo = 0
      · subst h3
        simp [h2] at hr; subst hr
        clear h2
        go_enter Try.func115, Try.ntmps115
        go_wp2_with (first | (with_reducible refine (HM.out).mono ?_; rintro e w2 ⟨rfl, rfl⟩) | (with_reducible refine (HM2.out).mono ?_; rintro e w2 ⟨rfl, rfl⟩))
        go_ret
        exact ⟨rfl, rfl⟩
      · simp [h3, h2] at hr; subst hr
        have hz : ((lo : Int) == 0) = false := by simp; exact h3
        clear h2 h3
        go_enter Try.func115, Try.ntmps115
        go_wp2_with (first | (with_reducible refine (HM.out).mono ?_; rintro e w2 ⟨rfl, rfl⟩) | (with_reducible refine (HM2.out).mono ?_; rintro e w2 ⟨rfl, rfl⟩))
        go_ret
        exact ⟨rfl, rfl⟩
    · have g2 : ((s : Int) == (q : Int)) = false := by simp; omega
      simp [h1, h2] at hr; subst hr
      clear h2
      go_enter Try.func115, Try.ntmps115
      go_wp2_with (first | (with_reducible refine (HM.out).mono ?_; rintro e w2 ⟨rfl, rfl⟩) | (with_reducible refine (HM2.out).mono ?_; rintro e w2 ⟨rfl, rfl⟩))
      go_ret
      exact ⟨rfl, rfl⟩

theorem cu_is (p x : Nat) (hp : p < 1000) (hx : x < 68719476736) (b : Nat) (w : World) (hb : Boxed w b 145 (.int .u64 p)) :
    Calls Try.prog 115 #[.int .u64 x, .pointer (some ⟨b, 0, none⟩)] w fun e w' => e = .returned (.bool (isCu p x)) ∧ w' = w := by
  have hxx : x * x < 68719476736 * 68719476736 := Nat.mul_lt_mul'' hx hx
  have hll : x * x % 18446744073709551616 < 18446744073709551616 := Nat.mod_lt _ (by decide)
  have hhh : x * x / 18446744073709551616 < 256 := by omega
  have hhx := Nat.mul_lt_mul'' hhh hx
  have hlx := Nat.mul_lt_mul'' hll hx
  have hih : x * x % 18446744073709551616 * x / 18446744073709551616 < 68719476736 := by omega
  exact cu_walk p x (x * x / 18446744073709551616) (x * x % 18446744073709551616) (x * x % 18446744073709551616 * x / 18446744073709551616) (x * x % 18446744073709551616 * x % 18446744073709551616)
    (x * x / 18446744073709551616 * x) (x * x % 18446744073709551616 * x / 18446744073709551616 + x * x / 18446744073709551616 * x) (p * 4294967296) hp (by simp) (by omega) (by simp) (by simp) (by omega) b w hb
    (Lib.hid (Try.bits_Mul64 x x (by omega) (by omega) w)) (Lib.hid (Try.bits_Mul64 _ x hll (by omega) w)) _ rfl
end Go.Proofs.Ytolapikiflodfaa.Sha
