/-
  DERIVED: THE SHELF's CONTRACTS AT THIS DUMP, IN PLAIN WORDS (tools/lay-plain.mjs out of 'TryShelf.lean', which tools/lay-shelf.mjs wrote): THE SAME DECLARATIONS UNDER THE SAME NAMES: 'import', 'namespace', 'open', 'def', 'theorem' AND NOTHING ELSE: no command of the shelf's: FOR A HAND-IN. Each laying: the table of numbers ('.._ren') and one theorem, a field a fact of the dump's own or the kernel's comparison; each contract: ONE APPLICATION.
-/
import Derived.Test.YthedebalecnldaaMReplicaArgs1
import Derived.Shelf.Bits.Mul64
import Derived.Shelf.Slices.Turned
import Derived.Test.YthedebalecnldaaProg
import Derived.RangeFuncNested
import Derived.RangeFuncBound
import Derived.RangeFuncCalls
import Derived.RangeFuncLeaves
import Derived.Shelf.Abstract
import Derived.Shelf.RegionOpen
import Derived.OwnWalkIn
import Derived.TacticsInMore
import Derived.LoopNIn
import Derived.LoopIn
import Derived.Laws.BitsAllLaws
import Derived.RangeFuncBox
import Derived.Laws.OwnMore
import Derived.Scope
import Derived.WalkMore
import Derived.Lib.SlicesS
import Derived.DeepKeys4
namespace Go.Proofs
open Go.Shelf
def Try.lays264_ren : Go.Shelf.Ren := ⟨fun | 264 => 21 | n => n, fun | 53 => 61 | 46 => 74 | n => n, fun | n => n⟩
theorem Try.lays264 : Go.Proofs.Lays.n264 Try.prog Try.lays264_ren := {
  mixed := by kernel_rfl
  f264 := Try.func21.trans (congrArg some (by kernel_rfl))
  t46 := Try.underlying74
  a46 := Try.isAgg74
  z46 := Try.sizeOf74
  v46 := Try.zeroValue74
  t53 := Try.underlying61
  a53 := Try.isAgg61
  z53 := Try.sizeOf61
  v53 := Try.zeroValue61 }
open Go.RowKit Go.Lib in
theorem Try.bits_Mul64 (x y : Nat) (hx : x < 18446744073709551616) (hy : y < 18446744073709551616) (w : World) :
    Calls Try.prog 21 #[.int .u64 x, .int .u64 y] w fun e w' => e = .returned (.tuple #[.int .u64 ((x * y / 18446744073709551616 : Nat) : Int), .int .u64 ((x * y % 18446744073709551616 : Nat) : Int)]) ∧ w' = w := Any.bits_Mul64 Try.lays264 x y hx hy w
def Try.lays110_ren : Go.Shelf.Ren := ⟨fun | 110 => 23 | 109 => 26 | n => n, fun | 31 => 44 | 9 => 9 | 4 => 4 | 3 => 3 | 0 => 0 | n => n, fun | n => n⟩
theorem Try.lays110 : Go.Proofs.Lays.n110 Try.prog Try.lays110_ren := {
  mixed := by kernel_rfl
  f109 := Try.func26.trans (congrArg some (by kernel_rfl))
  f110 := Try.func23.trans (congrArg some (by kernel_rfl))
  t0 := Try.underlying0
  a0 := Try.isAgg0
  z0 := Try.sizeOf0
  v0 := Try.zeroValue0
  t3 := Try.underlying3
  a3 := Try.isAgg3
  z3 := Try.sizeOf3
  v3 := Try.zeroValue3
  t4 := Try.underlying4
  a4 := Try.isAgg4
  z4 := Try.sizeOf4
  v4 := Try.zeroValue4
  t9 := Try.underlying9
  a9 := Try.isAgg9
  z9 := Try.sizeOf9
  v9 := Try.zeroValue9
  t31 := Try.underlying44
  a31 := Try.isAgg44
  z31 := Try.sizeOf44
  v31 := Try.zeroValue44 }
open Go.Lib in
/-- slices.Contains at []string: "Contains reports whether v is present in s.": IT RETURNS 'Lib.containsS (the elements) v', which is true just where v is among them ('Lib.containsS_iff'); the world is as it was. ITS CALLEE slices.Index IS MET BY ITS OWN CONTRACT OFF THE SHELF (lay that first): no loop is walked here. (LAID: no walk: one application.) -/
theorem Try.slices_Contains_string (b off n c : Nat) (zs : List ByteArray) (x : ByteArray) (w : World) (hz : n ≤ zs.length) (hbig : n ≤ 9223372036854775807) (hc : ∀ j, j < zs.length → w.cell? ⟨b, off + j, none⟩ = some (.string (zs.getD j ByteArray.empty))) :
    Calls Try.prog 23 #[.slice (some ⟨b, off, none⟩) n c, .string x] w fun e w' => e = .returned (.bool (Lib.containsS (zs.take n) x)) ∧ w' = w := Any.slices_Contains_string Try.lays110 b off n c zs x w hz hbig hc
open Go.Lib in
/-- The same at a slice of length 0, a nil one too. (LAID: no walk: one application.) -/
theorem Try.slices_Contains_string_empty (a : Option Addr) (c : Nat) (x : ByteArray) (w : World) :
    Calls Try.prog 23 #[.slice a 0 c, .string x] w fun e w' => e = .returned (.bool false) ∧ w' = w := Any.slices_Contains_string_empty Try.lays110 a c x w
end Go.Proofs
namespace Go.Proofs.Ythedebalecnldaa.Sha
open Go Go.Proofs Go.RowKit Go.Shelf
attribute [local go_sem] Oper.semAt_some

def isSq (p x : Nat) : Bool := let r := x * x; decide (r / 18446744073709551616 < p) || (decide (r / 18446744073709551616 = p) && decide (r % 18446744073709551616 = 0))

set_option maxHeartbeats 1000000 in
theorem sq_is (p x : Nat) (hp : p < 1000) (hx : x < 68719476736) (b : Nat) (w : World) (hb : Boxed w b 61 (.int .u64 p)) :
    Calls Try.prog 22 #[.int .u64 x, .pointer (some ⟨b, 0, none⟩)] w fun e w' => e = .returned (.bool (isSq p x)) ∧ w' = w := by
  obtain ⟨hi, hhi⟩ : ∃ h : Nat, x * x / 18446744073709551616 = h := ⟨_, rfl⟩
  obtain ⟨lo, hlo⟩ : ∃ h : Nat, x * x % 18446744073709551616 = h := ⟨_, rfl⟩
  have HM := Lib.hid (Try.bits_Mul64 x x (by omega) (by omega) w)
  rw [hhi, hlo] at HM
  have hc := hb.cell
  obtain ⟨r, hr⟩ : ∃ r, isSq p x = r := ⟨_, rfl⟩
  rw [hr]
  have HR := Lib.hid hr
  unfold isSq at hr
  simp only [hhi, hlo] at hr
  clear hhi hlo HR
  by_cases h1 : hi < p
  · simp [h1] at hr; subst hr
    go_enter Try.func22, Try.ntmps22
    go_wp2_with (refine (HM.out).mono ?_; rintro e w2 ⟨rfl, rfl⟩)
    go_ret
    exact ⟨rfl, rfl⟩
  · by_cases h2 : hi = p
    · subst h2
      by_cases h3 : lo = 0
      · subst h3
        simp at hr; subst hr
        go_enter Try.func22, Try.ntmps22
        go_wp2_with (refine (HM.out).mono ?_; rintro e w2 ⟨rfl, rfl⟩)
        go_ret
        exact ⟨rfl, rfl⟩
      · simp [h3] at hr; subst hr
        have hz : ((lo : Int) == 0) = false := by simp; exact h3
        go_enter Try.func22, Try.ntmps22
        go_wp2_with (refine (HM.out).mono ?_; rintro e w2 ⟨rfl, rfl⟩)
        go_ret
        exact ⟨rfl, rfl⟩
    · simp [h1, h2] at hr; subst hr
      go_enter Try.func22, Try.ntmps22
      go_wp2_with (refine (HM.out).mono ?_; rintro e w2 ⟨rfl, rfl⟩)
      go_ret
      exact ⟨rfl, rfl⟩

def isCu (p x : Nat) : Bool :=
  let r := x * x; let r2 := r % 18446744073709551616 * x
  let hi := r2 / 18446744073709551616 + r / 18446744073709551616 * x
  decide (hi < p * 4294967296) || (decide (hi = p * 4294967296) && decide (r2 % 18446744073709551616 = 0))

set_option maxHeartbeats 1000000 in
theorem cu_walk (p x h l hi lo m s q : Nat) (hp : p < 1000) (hm : (h : Int) * (x : Int) = (m : Int)) (hm2 : m < 100000000000000) (hq : (p : Int) * 4294967296 = (q : Int)) (hs2 : (hi : Int) + (m : Int) = (s : Int)) (hsl : s < 100000000000000) (b : Nat) (w : World) (hb : Boxed w b 61 (.int .u64 p))
    (HM : Hid (Calls Try.prog 21 #[.int .u64 x, .int .u64 x] w fun e w' => e = .returned (.tuple #[.int .u64 h, .int .u64 l]) ∧ w' = w))
    (HM2 : Hid (Calls Try.prog 21 #[.int .u64 l, .int .u64 x] w fun e w' => e = .returned (.tuple #[.int .u64 hi, .int .u64 lo]) ∧ w' = w))
    (r : Bool) (hr : (decide (s < q) || (decide (s = q) && decide (lo = 0))) = r) :
    Calls Try.prog 20 #[.int .u64 x, .pointer (some ⟨b, 0, none⟩)] w fun e w' => e = .returned (.bool r) ∧ w' = w := by
  have hc := hb.cell
  by_cases h1 : s < q
  · simp [h1] at hr; subst hr
    go_enter Try.func20, Try.ntmps20
    go_wp2_with (first | (with_reducible refine (HM.out).mono ?_; rintro e w2 ⟨rfl, rfl⟩) | (with_reducible refine (HM2.out).mono ?_; rintro e w2 ⟨rfl, rfl⟩))
    go_ret
    exact ⟨rfl, rfl⟩
  · by_cases h2 : s = q
    · have g2 : ((s : Int) == (q : Int)) = true := by rw [beq_iff_eq]; omega
      by_cases h3 : lo = 0
      · subst h3
        simp [h2] at hr; subst hr
        clear h2
        go_enter Try.func20, Try.ntmps20
        go_wp2_with (first | (with_reducible refine (HM.out).mono ?_; rintro e w2 ⟨rfl, rfl⟩) | (with_reducible refine (HM2.out).mono ?_; rintro e w2 ⟨rfl, rfl⟩))
        go_ret
        exact ⟨rfl, rfl⟩
      · simp [h3, h2] at hr; subst hr
        have hz : ((lo : Int) == 0) = false := by simp; exact h3
        clear h2 h3
        go_enter Try.func20, Try.ntmps20
        go_wp2_with (first | (with_reducible refine (HM.out).mono ?_; rintro e w2 ⟨rfl, rfl⟩) | (with_reducible refine (HM2.out).mono ?_; rintro e w2 ⟨rfl, rfl⟩))
        go_ret
        exact ⟨rfl, rfl⟩
    · have g2 : ((s : Int) == (q : Int)) = false := by simp; omega
      simp [h1, h2] at hr; subst hr
      clear h2
      go_enter Try.func20, Try.ntmps20
      go_wp2_with (first | (with_reducible refine (HM.out).mono ?_; rintro e w2 ⟨rfl, rfl⟩) | (with_reducible refine (HM2.out).mono ?_; rintro e w2 ⟨rfl, rfl⟩))
      go_ret
      exact ⟨rfl, rfl⟩

theorem cu_is (p x : Nat) (hp : p < 1000) (hx : x < 68719476736) (b : Nat) (w : World) (hb : Boxed w b 61 (.int .u64 p)) :
    Calls Try.prog 20 #[.int .u64 x, .pointer (some ⟨b, 0, none⟩)] w fun e w' => e = .returned (.bool (isCu p x)) ∧ w' = w := by
  have hxx : x * x < 68719476736 * 68719476736 := Nat.mul_lt_mul'' hx hx
  have hll : x * x % 18446744073709551616 < 18446744073709551616 := Nat.mod_lt _ (by decide)
  have hhh : x * x / 18446744073709551616 < 256 := by omega
  have hhx := Nat.mul_lt_mul'' hhh hx
  have hlx := Nat.mul_lt_mul'' hll hx
  have hih : x * x % 18446744073709551616 * x / 18446744073709551616 < 68719476736 := by omega
  exact cu_walk p x (x * x / 18446744073709551616) (x * x % 18446744073709551616) (x * x % 18446744073709551616 * x / 18446744073709551616) (x * x % 18446744073709551616 * x % 18446744073709551616)
    (x * x / 18446744073709551616 * x) (x * x % 18446744073709551616 * x / 18446744073709551616 + x * x / 18446744073709551616 * x) (p * 4294967296) hp (by simp) (by omega) (by simp) (by simp) (by omega) b w hb
    (Lib.hid (Try.bits_Mul64 x x (by omega) (by omega) w)) (Lib.hid (Try.bits_Mul64 _ x hll (by omega) w)) _ rfl
end Go.Proofs.Ythedebalecnldaa.Sha
namespace Go.Proofs.Ythedebalecnldaa.Sha
open Go Go.Proofs Go.RowKit Go.Shelf
attribute [local go_sem] Oper.semAt_some

/-- the greatest number that is so, bit by bit -/
def grF (isB : Nat → Bool) : Nat → Nat → Nat
  | 0, x => x
  | k + 1, x => grF isB k (if isB (x ||| 2 ^ k) then x ||| 2 ^ k else x)
def bitK (k : Nat) : Nat := 2 ^ k / 2
theorem bitK_succ (k : Nat) : bitK (k + 1) = 2 ^ k := by unfold bitK; rw [Nat.pow_succ]; omega
theorem bitK_half (k : Nat) : ((2 ^ k : Nat) : Int) / 2 = ((bitK k : Nat) : Int) := by unfold bitK; omega
theorem bitK_0 : bitK 0 = 0 := rfl

set_option maxHeartbeats 1000000 in
theorem gr117 (p : Nat) (hp : p < 1000) (b : Nat) (w : World) (hb : Boxed w b 61 (.int .u64 p)) :
    Calls Try.prog 19 #[.func (.func 22) #[] #[.pointer (some ⟨b, 0, none⟩)]] w fun e w' => e = .returned (.int .u64 (grF (isSq p) 36 0 : Nat)) ∧ w' = w := by
  have HC := Lib.hid (fun x (hx : x < 68719476736) => sq_is p x hp hx b w hb)
  obtain ⟨T, hT⟩ : ∃ T, grF (isSq p) 36 0 = T := ⟨_, rfl⟩
  rw [hT]
  have HT := Lib.hid hT
  clear hT hb hp
  go_enter Try.func19, Try.ntmps19
  go_wp2
  go_loop [3, 4] (fun s3 s4 => ∃ (k x : Nat), k ≤ 36 ∧ x < 68719476736 ∧ s3 = .int .u64 x ∧ s4 = .int .u64 (bitK k) ∧ Hid (grF (isSq p) k x = T)) (fun _ s4 => (intOf s4).toNat)
  case atStart => exact ⟨36, 0, Nat.le_refl _, by decide, rfl, by rw [show bitK 36 = 34359738368 from rfl]; rfl, HT⟩
  case round =>
    obtain ⟨k, x, hk, hx, rfl, rfl, HG⟩ := hrel
    match k, hk, HG with
    | 0, _, HG =>
      rw [bitK_0]
      go_wp2
      go_ret
      exact ⟨by rw [← HG.out]; rfl, rfl⟩
    | k + 1, hk, HG =>
      have hor : x ||| 2 ^ k < 68719476736 := Nat.or_lt_two_pow (n := 36) hx (Nat.pow_lt_pow_right (by decide) (by omega))
      have hcall := HC.out _ hor
      have hG := HG.out
      rw [grF] at hG
      rw [bitK_succ]
      have hhalf := bitK_half k
      have hpos : 0 < 2 ^ k := Nat.two_pow_pos k
      have hle : 2 ^ k < 68719476736 := Nat.pow_lt_pow_right (n := 36) (by decide) (by omega)
      generalize 2 ^ k = y at *
      have hbits := u64_or_nat x y (by omega) (by omega)
      generalize x ||| y = z at *
      cases hq : isSq p z with
      | true =>
        rw [hq] at hcall hG
        have HG2 := Lib.hid hG
        clear hG hq HC HT HG
        go_wp2_with (go_at_call 22; refine hcall.mono ?_; rintro e w2 ⟨rfl, rfl⟩)
        go_round
        case rel => exact ⟨k, z, by omega, hor, by go_num, by go_num, HG2⟩
        case measure => simp [intOf]; omega
      | false =>
        rw [hq] at hcall hG
        have HG2 := Lib.hid hG
        clear hG hq HC HT HG
        go_wp2_with (go_at_call 22; refine hcall.mono ?_; rintro e w2 ⟨rfl, rfl⟩)
        go_round
        case rel => exact ⟨k, x, by omega, hx, by go_num, by go_num, HG2⟩
        case measure => simp [intOf]; omega

set_option maxHeartbeats 1000000 in
theorem gr115 (p : Nat) (hp : p < 1000) (b : Nat) (w : World) (hb : Boxed w b 61 (.int .u64 p)) :
    Calls Try.prog 19 #[.func (.func 20) #[] #[.pointer (some ⟨b, 0, none⟩)]] w fun e w' => e = .returned (.int .u64 (grF (isCu p) 36 0 : Nat)) ∧ w' = w := by
  have HC := Lib.hid (fun x (hx : x < 68719476736) => cu_is p x hp hx b w hb)
  obtain ⟨T, hT⟩ : ∃ T, grF (isCu p) 36 0 = T := ⟨_, rfl⟩
  rw [hT]
  have HT := Lib.hid hT
  clear hT hb hp
  go_enter Try.func19, Try.ntmps19
  go_wp2
  go_loop [3, 4] (fun s3 s4 => ∃ (k x : Nat), k ≤ 36 ∧ x < 68719476736 ∧ s3 = .int .u64 x ∧ s4 = .int .u64 (bitK k) ∧ Hid (grF (isCu p) k x = T)) (fun _ s4 => (intOf s4).toNat)
  case atStart => exact ⟨36, 0, Nat.le_refl _, by decide, rfl, by rw [show bitK 36 = 34359738368 from rfl]; rfl, HT⟩
  case round =>
    obtain ⟨k, x, hk, hx, rfl, rfl, HG⟩ := hrel
    match k, hk, HG with
    | 0, _, HG =>
      rw [bitK_0]
      go_wp2
      go_ret
      exact ⟨by rw [← HG.out]; rfl, rfl⟩
    | k + 1, hk, HG =>
      have hor : x ||| 2 ^ k < 68719476736 := Nat.or_lt_two_pow (n := 36) hx (Nat.pow_lt_pow_right (by decide) (by omega))
      have hcall := HC.out _ hor
      have hG := HG.out
      rw [grF] at hG
      rw [bitK_succ]
      have hhalf := bitK_half k
      have hpos : 0 < 2 ^ k := Nat.two_pow_pos k
      have hle : 2 ^ k < 68719476736 := Nat.pow_lt_pow_right (n := 36) (by decide) (by omega)
      generalize 2 ^ k = y at *
      have hbits := u64_or_nat x y (by omega) (by omega)
      generalize x ||| y = z at *
      cases hq : isCu p z with
      | true =>
        rw [hq] at hcall hG
        have HG2 := Lib.hid hG
        clear hG hq HC HT HG
        go_wp2_with (go_at_call 20; refine hcall.mono ?_; rintro e w2 ⟨rfl, rfl⟩)
        go_round
        case rel => exact ⟨k, z, by omega, hor, by go_num, by go_num, HG2⟩
        case measure => simp [intOf]; omega
      | false =>
        rw [hq] at hcall hG
        have HG2 := Lib.hid hG
        clear hG hq HC HT HG
        go_wp2_with (go_at_call 20; refine hcall.mono ?_; rintro e w2 ⟨rfl, rfl⟩)
        go_round
        case rel => exact ⟨k, x, by omega, hx, by go_num, by go_num, HG2⟩
        case measure => simp [intOf]; omega

end Go.Proofs.Ythedebalecnldaa.Sha
namespace Go.Proofs.Ythedebalecnldaa
open Go Go.RowKit
variable {F : Fence} {n : Nat} {P : Program}

/-- what an iterator with a row of its own does: J is carried on by the rounds, and by the iterator's own steps T; G holds of what has been handed out, where a round goes on -/
def StepSeq {α : Type} (F : Fence) (n : Nat) (P : Program) (g : Nat) (lb : Array Value) (encs : α → Array Value) (T Kp : World → World → Prop) (G : List α → Prop) (S Sp : List α → Prop) (N : Nat) (w : World) : Prop :=
  ∀ (l : Nat) (J Jx : List α → World → Prop) (W : World), Below w.heap.size w W →
    (∀ s A B, T A B → J s A → J s B) → (∀ s A B, T A B → Jx s A → Jx s B) →
    (∀ pre x W1, J pre W1 → pre.length < N → YieldAt F (n - 1) P l (encs x) W1 fun e W2 =>
      (e = .returned (.bool true) ∧ G (pre ++ [x]) ∧ J (pre ++ [x]) W2 ∧ Kp W1 W2) ∨ (e = .returned (.bool false) ∧ Jx (pre ++ [x]) W2)) →
    J [] W →
    CallsIn F n P g (#[.func (.yield l) #[] #[]] ++ lb) W fun e W2 => (∃ v, e = .returned v) ∧ ((∃ xs, S xs ∧ J xs W2) ∨ (∃ pre, Sp pre ∧ Jx pre W2))

/-- how the body may be left -/
def stepWay {α : Type} (B : Nat) (G : List α → Prop) (Kp : World → World → Prop) (I : List α → World → Prop) (Ix : Code → List α → World → Prop) (xs : List α) (W : World) : Exit → Act → World → Prop
  | .normal, _, V => KeepsFrom B W V ∧ G xs ∧ Kp W V ∧ I xs V
  | .ret, _, V => KeepsFrom B W V ∧ Ix .ret xs V
  | .exit i, _, V => KeepsFrom B W V ∧ Ix (.exit i) xs V
  | .goto t, _, V => KeepsFrom B W V ∧ Ix (.goto t) xs V
  | _, _, _ => False

theorem step_alloc {W : World} {k : Nat} {o : Obj} (o2 : Obj) (h : W.heap[k]? = some o) : (W.alloc o2).heap[k]? = some o :=
  (Below.heap_alloc W o2 k (Array.getElem?_eq_some_iff.1 h).1).trans h

/-- a turn of the loop's own record, or of its block for deferred calls -/
theorem step_put {β : Type} {B : Nat} {I : β → World → Prop} (h : OwnFrom B I) {s : β} {W : World} {k : Nat} {o o2 : Obj} (hs : I s W) (hB : B ≤ k) (hk : W.heap[k]? = some o) (ho : o.isCells = false) : I s (W.putObj k o2) :=
  h.putObj o2 hs hB hk ho

theorem range_step {α : Type} {g : Operand} {ps : Array Tmp} {assign body : Code} {Q : Exit → Act → World → Prop} {a : Act} {w : World}
    (hro : F.round = none) (h1 : 1 ≤ n) {gf : Nat} {lb : Array Value} (hg : a.eval g = .func (.func gf) #[] lb) (hF : F.fn gf) (eg : ∀ args w, (callFunc gf args).run P w = .ok (.enter gf args) w)
    {encs : α → Array Value} {T Kp : World → World → Prop} {G : List α → Prop} {S Sp : List α → Prop} {N : Nat} {w0 : World} (hseq : StepSeq F (n - 1) P gf lb encs T Kp G S Sp N w0)
    (hTn : ∀ (A B : World) (k : Nat) (o : Obj), T A B → A.heap[k]? = some o → o.isCells = false → B.heap[k]? = some o)
    (hKt : ∀ {A B C : World}, Kp A B → Kp B C → Kp A C)
    (hKb : ∀ (W : World) (l : Nat) (o o2 : Obj), w.heap.size ≤ l → W.heap[l]? = some o → o.isCells = false → Kp W (W.putObj l o2))
    (hb0 : Below w0.heap.size w0 w) (hps : ∀ x, (encs x).size = ps.size)
    (I : List α → World → Prop) (Ix : Code → List α → World → Prop) (hI : OwnFrom w.heap.size I) (hIx : ∀ c, OwnFrom w.heap.size (Ix c))
    (hIT : ∀ s A B, T A B → I s A → I s B) (hIxT : ∀ c s A B, T A B → Ix c s A → Ix c s B) (h0 : I [] w) (a1 : α → Act)
    (hassign : ∀ (l : Nat) (x : α) (W : World) (K : Act → World → Prop), K (a1 x) W →
      assign.wpIn (F.inRound l) (n - 1 - 1) P (Exit.then K (fun _ _ _ => False)) { tmps := (ps.zip (encs x)).foldl (fun t (p, v) => t.setIfInBounds p v) a.tmps, defers := [] } W)
    (hbody : ∀ (l : Nat) (pre : List α) (x : α) (W : World), I pre W → pre.length < N → body.wpIn (F.inRound l) (n - 1 - 1) P (stepWay w.heap.size G Kp I Ix (pre ++ [x]) W) (a1 x) W)
    (hdone : ∀ (D : Nat) (xs : List α) (W : World), w.heap.size ≤ D → S xs → I xs W → W.heap[D]? = some (.deferred (some [])) → Q .normal { a with defers := { target := .collected D, args := #[] } :: a.defers } W)
    (hstop : ∀ (D : Nat) (c : Code) (pre : List α) (W : World), w.heap.size ≤ D → Sp pre → Ix c pre W → W.heap[D]? = some (.deferred (some [])) → c.wpIn F n P Q { a with defers := { target := .collected D, args := #[] } :: a.defers } W) :
    (Code.rangeFunc g ps assign body).wpIn F n P Q a w := by
  refine wpIn_rangeFunc fun fn hfn => ?_
  rw [hro]
  obtain ⟨rec, hrec⟩ : ∃ r : LoopState → Option Code → Loop, r = fun st pe => { state := st, pending := pe, fn, tmps := a.tmps, params := ps, assign, body, defers := w.heap.size } := ⟨_, rfl⟩
  obtain ⟨V, hV⟩ : ∃ V, (w.alloc (.deferred (some []))).alloc (.loop (rec .ready none)) = V := ⟨_, rfl⟩
  have hD : V.heap[w.heap.size]? = some (.deferred (some [])) := by rw [← hV]; exact step_alloc _ (World.alloc_heap_new w _)
  have hR : V.heap[w.heap.size + 1]? = some (.loop (rec .ready none)) := by
    rw [← hV]; have h := World.alloc_heap_new (w.alloc (.deferred (some []))) (.loop (rec .ready none)); rwa [World.size_alloc] at h
  have hI0 : I [] V := by rw [← hV]; exact hI.alloc _ (hI.alloc _ h0)
  have hBV : Below w0.heap.size w0 V := by rw [← hV]; exact hb0.trans ((((Below.refl _ w).alloc (Nat.le_refl _) _).alloc (by simp) _).mono hb0.size)
  refine ⟨w.heap.size + 1, [{ target := .collected w.heap.size, args := #[] }], V, { target := .fn (.func gf) lb, args := #[.func (.yield (w.heap.size + 1)) #[] #[]] }, V, gf,
    #[.func (.yield (w.heap.size + 1)) #[] #[]] ++ lb, V, ?_, ?_, ?_, ?_, fun _ => h1, ?_⟩
  · rw [← hV, hrec]; exact run_enterLoop_outer _ _ _ _ _
  · simp only [resolve, hg]; simp [go_sem]
  · intro f2 h2; simp [Target.leads] at h2; subst h2; exact hF
  · simp [invoke, go_sem, eg]
  have hround : ∀ pre x W1, (I pre W1 ∧ W1.heap[w.heap.size + 1]? = some (.loop (rec .ready none)) ∧ W1.heap[w.heap.size]? = some (.deferred (some []))) → pre.length < N →
      YieldAt F (n - 1 - 1) P (w.heap.size + 1) (encs x) W1 fun e W2 =>
        (e = .returned (.bool true) ∧ G (pre ++ [x]) ∧ (I (pre ++ [x]) W2 ∧ W2.heap[w.heap.size + 1]? = some (.loop (rec .ready none)) ∧ W2.heap[w.heap.size]? = some (.deferred (some []))) ∧ Kp W1 W2) ∨
        (e = .returned (.bool false) ∧ ∃ c, Ix c (pre ++ [x]) W2 ∧ W2.heap[w.heap.size + 1]? = some (.loop (rec .done (some c))) ∧ W2.heap[w.heap.size]? = some (.deferred (some []))) := by
    rintro pre x W1 ⟨hi, hl, hd⟩ hlen
    have hlt := (Array.getElem?_eq_some_iff.1 hl).1
    have hy := run_yield (P := P) (args := encs x) hl (by rw [hrec]; exact hps x)
    rw [hrec] at hy
    refine ⟨fn, _, assign, body, hy, roundIn_of_wpIn hfn (hassign _ x W1 _ ⟨_, run_beginRound hl (by rw [hrec]), ?_⟩)⟩
    generalize hW3 : W1.putObj (w.heap.size + 1) (.loop { rec .ready none with state := .busy }) = W3
    have hl3 : W3.heap[w.heap.size + 1]? = some (.loop { rec .ready none with state := .busy }) := by rw [← hW3]; exact World.putObj_heap_same hlt
    have hd3 : W3.heap[w.heap.size]? = some (.deferred (some [])) := by rw [← hW3]; exact (World.putObj_heap_other (by omega)).trans hd
    have hk3 : Kp W1 W3 := by rw [← hW3]; exact hKb _ _ _ _ (by omega) hl rfl
    have hi3 : I pre W3 := by rw [← hW3]; exact step_put hI hi (by omega) hl rfl
    have last : ∀ (j : Option Code) (W4 : World), KeepsFrom w.heap.size W3 W4 → ∃ W5, (Instr.endRound (w.heap.size + 1) j).run P W4 = .ok (.bool j.isNone) W5 ∧ W5 = W4.putObj (w.heap.size + 1) (.loop (rec (if j.isNone then .ready else .done) j)) ∧
        W4.heap[w.heap.size + 1]? = some (.loop { rec .ready none with state := .busy }) ∧
        W5.heap[w.heap.size + 1]? = some (.loop (rec (if j.isNone then .ready else .done) j)) ∧ W5.heap[w.heap.size]? = some (.deferred (some [])) := fun j W4 h4 => by
      have hl4 := h4.same _ _ (by omega) hl3 rfl
      have hd4 := h4.same _ _ (Nat.le_refl _) hd3 rfl
      have he := run_endRound (P := P) j hl4
      refine ⟨_, he, ?_, hl4, ?_, ?_⟩
      · rw [hrec]
      · rw [World.putObj_heap_same (Array.getElem?_eq_some_iff.1 hl4).1, hrec]
      · exact (World.putObj_heap_other (by omega)).trans hd4
    refine wpIn_mono (hbody _ pre x _ hi3 hlen) ?_
    rintro e a4 W4 hp
    cases e with
    | normal =>
      obtain ⟨h4, hg4, hk4, hi4⟩ := hp
      obtain ⟨W5, he, e5, hl4, hl5, hd5⟩ := last none W4 h4
      exact ⟨_, _, he, .inl ⟨rfl, hg4, ⟨by rw [e5]; exact step_put hI hi4 (by omega) hl4 rfl, hl5, hd5⟩, by rw [e5]; exact hKt (hKt hk3 hk4) (hKb _ _ _ _ (by omega) hl4 rfl)⟩⟩
    | ret =>
      obtain ⟨h4, hi4⟩ := hp
      obtain ⟨W5, he, e5, hl4, hl5, hd5⟩ := last (some .ret) W4 h4
      exact ⟨_, _, he, .inr ⟨rfl, .ret, by rw [e5]; exact step_put (hIx _) hi4 (by omega) hl4 rfl, hl5, hd5⟩⟩
    | exit i =>
      obtain ⟨h4, hi4⟩ := hp
      obtain ⟨W5, he, e5, hl4, hl5, hd5⟩ := last (some (.exit i)) W4 h4
      exact ⟨_, _, he, .inr ⟨rfl, .exit i, by rw [e5]; exact step_put (hIx _) hi4 (by omega) hl4 rfl, hl5, hd5⟩⟩
    | goto t =>
      obtain ⟨h4, hi4⟩ := hp
      obtain ⟨W5, he, e5, hl4, hl5, hd5⟩ := last (some (.goto t)) W4 h4
      exact ⟨_, _, he, .inr ⟨rfl, .goto t, by rw [e5]; exact step_put (hIx _) hi4 (by omega) hl4 rfl, hl5, hd5⟩⟩
    | panic ch => exact hp.elim
    | outgrown => exact hp.elim
  refine (hseq (w.heap.size + 1)
    (fun pre W => I pre W ∧ W.heap[w.heap.size + 1]? = some (.loop (rec .ready none)) ∧ W.heap[w.heap.size]? = some (.deferred (some [])))
    (fun pre W => ∃ c, Ix c pre W ∧ W.heap[w.heap.size + 1]? = some (.loop (rec .done (some c))) ∧ W.heap[w.heap.size]? = some (.deferred (some [])))
    V hBV (fun s A B hT h => ⟨hIT s A B hT h.1, hTn A B _ _ hT h.2.1 rfl, hTn A B _ _ hT h.2.2 rfl⟩)
    (fun s A B hT h => by obtain ⟨c, hc, hl, hd⟩ := h; exact ⟨c, hIxT c s A B hT hc, hTn A B _ _ hT hl rfl, hTn A B _ _ hT hd rfl⟩)
    hround ⟨hI0, hR, hD⟩).mono ?_
  rintro e W2 ⟨⟨v, rfl⟩, (⟨xs, hS, hi, hl, hd⟩ | ⟨pre, hSp, c, hi, hl, hd⟩)⟩
  · refine ⟨none, _, by have h := run_endLoop (P := P) hl (by rw [hrec]; simp); rw [hrec] at h; exact h, ?_⟩
    exact hdone _ xs _ (Nat.le_refl _) hS (step_put hI hi (by omega) hl rfl) ((World.putObj_heap_other (by omega)).trans hd)
  · refine ⟨some c, _, by have h := run_endLoop (P := P) hl (by rw [hrec]; simp); rw [hrec] at h; exact h, ?_⟩
    exact hstop _ c pre _ (Nat.le_refl _) hSp (step_put (hIx c) hi (by omega) hl rfl) ((World.putObj_heap_other (by omega)).trans hd)

end Go.Proofs.Ythedebalecnldaa
namespace Go.Proofs.Ythedebalecnldaa.Sha
open Go Go.Proofs Go.RowKit Go.Shelf
attribute [local go_sem] Oper.semAt_some

section
variable {F : Fence} {n : Nat} {P : Program} {Q : Exit → Act → World → Prop} {a : Act} {w : World}
theorem stepR_scope {b : Frame} {k : List Item} {cs : List Frame} {c : Code} : step P (lone (b.atR a (.code (.scope c) :: k)) cs w) = .next (lone (b.atR a (.code c :: .inScope c :: k)) cs w) :=
  step_lone_go (by simp [stepG, stepG.exec, Frame.atR])
theorem stepR_inScope {b : Frame} {k : List Item} {cs : List Frame} {c : Code} : step P (lone (b.atR a (.inScope c :: k)) cs w) = .next (lone (b.atR a k) cs w) :=
  step_lone_go (by simp [stepG, stepG.exec, Frame.atR])
theorem wpIn_scope_straight {c : Code} (h : c.wpIn F n P (Exit.noGoto Q) a w) : (Code.scope c).wpIn F n P Q a w := by
  intro b k cs hro hb hr
  have h0 : (lone (b.atR a (.code (.scope c) :: k)) cs w).fenced P F := fenced_calm hb hr rfl
  obtain ⟨e, a₁, w₁, hq, harr⟩ := h b (.inScope c :: k) cs hro hb hr
  cases e with
  | normal => exact ⟨.normal, a₁, w₁, hq, .head h0 stepR_scope (StepsIn.trans harr (.one (fenced_calm hb hr rfl) stepR_inScope))⟩
  | exit id =>
    have hx : exitTo id (.inScope c :: k) = exitTo id k := by simp [exitTo]
    exact ⟨.exit id, a₁, w₁, hq, fun k' hk => .head h0 stepR_scope (harr.1 k' (by rw [hx]; exact hk)), fun hr' hk => let ⟨k₁, h1, h2⟩ := harr.2 hr' (by rw [hx]; exact hk); ⟨k₁, h1, .head h0 stepR_scope h2⟩⟩
  | goto l => exact hq.elim
  | ret => exact ⟨_, a₁, w₁, hq, .of_steps (.one h0 stepR_scope) harr⟩
  | panic ch => exact ⟨_, a₁, w₁, hq, .of_steps (.one h0 stepR_scope) harr⟩
  | outgrown => exact ⟨_, a₁, w₁, hq, .of_steps (.one h0 stepR_scope) harr⟩
end
theorem grF_lt (isB : Nat → Bool) : ∀ k x, k ≤ 36 → x < 68719476736 → grF isB k x < 68719476736 := by
  intro k
  induction k with
  | zero => intro x _ h; exact h
  | succ k ih =>
    intro x hk hx
    have h2 : x ||| 2 ^ k < 68719476736 := Nat.or_lt_two_pow (n := 36) hx (Nat.pow_lt_pow_right (by decide) (by omega))
    rw [grF]
    split
    · exact ih _ (by omega) h2
    · exact ih _ (by omega) hx
def sqV (p : Nat) : Nat := grF (isSq p) 36 0
def cuV (p : Nat) : Nat := grF (isCu p) 36 0
theorem sqV_lt (p : Nat) : sqV p < 68719476736 := grF_lt _ 36 0 (Nat.le_refl _) (by decide)
theorem cuV_lt (p : Nat) : cuV p < 68719476736 := grF_lt _ 36 0 (Nat.le_refl _) (by decide)
abbrev box (p : Nat) : Obj := .cells #[.int .u64 p] 61
theorem hmf (fn : Fn) (first cap : Array Value) (w : World) : (Instr.makeFunc fn first cap).run Try.prog w = .ok (.func fn first cap) w := rfl

set_option maxHeartbeats 1000000 in
theorem square_c (p : Nat) (hp : p < 1000) (w : World) : Calls Try.prog 13 #[.int .u64 p] w fun e w' => e = .returned (.int .u32 (sqV p % 4294967296 : Nat)) ∧ w' = w.alloc (box p) := by
  have HC := Lib.hid (gr117 p hp w.heap.size (w.alloc (box p)) (Boxed.new w 61 _))
  have hlt := sqV_lt p
  change Hid (Calls Try.prog 19 _ _ fun e w' => e = .returned (.int .u64 (sqV p : Nat)) ∧ _) at HC
  generalize sqV p = s at *
  have hmf := hmf
  go_enter Try.func13, Try.ntmps13
  go_wp2_with (go_at_call 19; refine HC.out.mono ?_; rintro e w2 ⟨rfl, rfl⟩)
  go_ret
  exact ⟨rfl, rfl⟩
set_option maxHeartbeats 1000000 in
theorem cube_c (p : Nat) (hp : p < 1000) (w : World) : Calls Try.prog 12 #[.int .u64 p] w fun e w' => e = .returned (.int .u32 (cuV p % 4294967296 : Nat)) ∧ w' = w.alloc (box p) := by
  have HC := Lib.hid (gr115 p hp w.heap.size (w.alloc (box p)) (Boxed.new w 61 _))
  have hlt := cuV_lt p
  change Hid (Calls Try.prog 19 _ _ fun e w' => e = .returned (.int .u64 (cuV p : Nat)) ∧ _) at HC
  generalize cuV p = s at *
  have hmf := hmf
  go_enter Try.func12, Try.ntmps12
  go_wp2_with (go_at_call 19; refine HC.out.mono ?_; rintro e w2 ⟨rfl, rfl⟩)
  go_ret
  exact ⟨rfl, rfl⟩

/-- the primes below q -/
def prs : Nat → List Nat
  | 0 => []
  | q + 1 => if q < 2 then prs q else if (prs q).any (fun p => q % p == 0) then prs q else prs q ++ [q]
theorem prs_hit (q : Nat) (h2 : 2 ≤ q) (h : (prs q).any (fun p => q % p == 0) = true) : prs (q + 1) = prs q := by rw [prs, if_neg (by omega), if_pos h]
theorem prs_new (q : Nat) (h2 : 2 ≤ q) (h : (prs q).any (fun p => q % p == 0) = false) : prs (q + 1) = prs q ++ [q] := by rw [prs, if_neg (by omega), if_neg (by rw [h]; decide)]
theorem prs_in (q : Nat) : ∀ p ∈ prs q, 2 ≤ p ∧ p < q := by
  induction q with
  | zero => intro p hp; cases hp
  | succ q ih =>
    intro p hp
    rw [prs] at hp
    split at hp
    · have := ih p hp; omega
    · split at hp
      · have := ih p hp; omega
      · rcases List.mem_append.1 hp with hp | hp
        · have := ih p hp; omega
        · rw [List.mem_singleton.1 hp]; omega
theorem prs_mono (q r : Nat) (h : q ≤ r) : (prs q).length ≤ (prs r).length := by
  induction r with
  | zero => rw [Nat.le_zero.1 h]; exact Nat.le_refl _
  | succ r ih =>
    by_cases e : q = r + 1
    · rw [e]; exact Nat.le_refl _
    · refine Nat.le_trans (ih (by omega)) ?_
      rw [prs]
      split
      · exact Nat.le_refl _
      · split
        · exact Nat.le_refl _
        · simp
theorem prs_314 : (prs 314).length = 65 := by decide +kernel
theorem prs_313 : (prs 313).length = 64 := by decide +kernel
theorem prs_top (q : Nat) (h : (prs q).length < 65) : q < 314 := by
  rcases Nat.lt_or_ge q 314 with h1 | h1
  · exact h1
  · have := prs_mono 314 q h1; rw [prs_314] at this; omega

def encP (l : List Nat) : List Value := l.map fun (p : Nat) => .int .u64 (p : Int)
theorem encP_app (a b : List Nat) : encP (a ++ b) = encP a ++ encP b := List.map_append
def StepT (base : Nat) (A B : World) : Prop := ∃ row, A.grownBy B row ∧ ∀ r, row = some r → base ≤ r ∧ ∃ cs, A.heap[r]? = some (.cells cs 61 (0, 0))
def Keep145 (A B : World) : Prop := ∀ (k : Nat) (cs : Array Value), A.heap[k]? = some (.cells cs 61 (0, 0)) → B.heap[k]? = some (.cells cs 61 (0, 0))
theorem StepT.alloc (base : Nat) (A : World) (o : Obj) : StepT base A (A.alloc o) := ⟨none, World.grownBy_alloc A o none, fun r e => by cases e⟩
theorem StepT.row {base b : Nat} {A B : World} {v : Value} {n : Nat} {xs : List Value} (h : A.ownsRow b 61 1 v n xs) (hb : base ≤ b) (hg : A.grownBy B v.ownBlock) : StepT base A B := by
  refine ⟨_, hg, fun r e => ?_⟩
  rcases h.2 with ⟨rfl, _⟩ | ⟨g, cap, cur, rfl, hbg, hc, _⟩
  · cases e
  · cases e; exact ⟨Nat.le_trans hb hbg, _, hc⟩
theorem own_keep {A B : World} {b : Nat} {v : Value} {n : Nat} {xs : List Value} (h : A.ownsRow b 61 1 v n xs) (hk : Keep145 A B) : B.ownsRow b 61 1 v n xs := by
  refine ⟨h.1, ?_⟩
  rcases h.2 with h0 | ⟨g, cap, cur, h1, h2, h3, h4⟩
  · exact .inl h0
  · exact .inr ⟨g, cap, cur, h1, h2, hk _ _ h3, h4⟩
theorem own_view {w : World} {b : Nat} {v : Value} {n : Nat} {l : List Nat} (h : w.ownsRow b 61 1 v n (encP l)) : ∃ A c, v = .slice A l.length c ∧ n = l.length ∧ ∀ k (h : k < l.length), ∃ ad, A = some ad ∧ w.cell? (ad.add k) = some (.int .u64 (l[k] : Nat)) := by
  have hn : n = l.length := by have := h.1; simp [encP] at this; omega
  rcases h.2 with ⟨rfl, rfl⟩ | ⟨g, cap, cur, rfl, _⟩
  · exact ⟨none, 0, by rw [← hn], hn, fun k hk => by omega⟩
  · refine ⟨_, cap, by rw [hn], hn, fun k hk => ⟨_, rfl, h.cells rfl k _ ?_⟩⟩
    simp [encP, hk]
theorem info145 : (Try.prog.info? 61).map (fun i => (i.zero, i.size, i.bytes)) = some (some (.int .u64 0), 1, 8) := by kernel_rfl
theorem one_new (w : World) (u : Value) (t : TypeId) : ∀ j x, ([u] : List Value)[j]? = some x → (w.alloc (.cells #[u] t)).cell? ((⟨w.heap.size, 0, none⟩ : Addr).add j) = some x := by
  intro j x hx
  match j, hx with
  | 0, hx => obtain rfl : u = x := by simpa using hx
             simp [Addr.add]
  | j + 1, hx => simp at hx

/-- a prime that the table is made of -/
abbrev Pm := { p : Nat // p < 1000 }
def mkP (p : Nat) : Pm := ⟨min p 999, by omega⟩
theorem mkP_val (p : Nat) (h : p < 314) : (mkP p).1 = p := by show min p 999 = p; omega
def pms (l : List Nat) : List Pm := l.map mkP
theorem pms_app (l : List Nat) (q : Nat) : pms (l ++ [q]) = pms l ++ [mkP q] := by simp [pms]
theorem pms_len (l : List Nat) : (pms l).length = l.length := by simp [pms]
set_option maxRecDepth 100000 in
set_option maxHeartbeats 4000000 in
theorem primes1 (F : Fence) (n : Nat) (hf : F.fn 18) (hro : F.round = none) (hn : 1 ≤ n) (w : World) :
    StepSeq F n Try.prog 18 #[] (fun (p : Pm) => #[.int .u64 (p.1 : Int)]) (StepT w.heap.size) Keep145 (fun l => l.length < 65) (fun _ => False) (fun pre => ∃ q, pre = pms (prs (q + 1)) ∧ q < 314) 65 w := fun l J Jx W hW hJT hJxT hY hJ0 => by
  obtain ⟨i0, hi, hz0, hz1, hz2⟩ := info_parts info145
  refine callsIn_of_wp Try.func18 rfl hf ?_ hro
  simp only [Try.ntmps18, List.size_toArray, List.length_cons, List.length_nil, Nat.reduceAdd, Nat.reduceSub, Array.replicate_succ, Array.replicate_zero, List.push_toArray, List.append_toArray, List.nil_append, List.cons_append]
  refine wpIn_scope_straight ?_
  gi_wp2_with (apply wpIn_label)
  gi_loopw [2, 3] (fun s2 s3 wr => ∃ q : Nat, 2 ≤ q ∧ s3 = .int .u64 (q : Int) ∧ (prs q).length < 65 ∧ wr.ownsRow W.heap.size 61 1 s2 (prs q).length (encP (prs q)) ∧ J (pms (prs q)) wr ∧ W.heap.size ≤ wr.heap.size) (fun _ s3 _ => 400 - (intOf s3).toNat)
  case atStart => exact ⟨2, Nat.le_refl _, rfl, by decide, World.ownsRow_nil _ _ _ _, hJ0, Nat.le_refl _⟩
  case round =>
    obtain ⟨q, h2, rfl, hlen, hrow, hJ, hsz⟩ := hrel
    have hq := prs_top q hlen
    have hin := prs_in q
    obtain ⟨L, hL⟩ : ∃ L, prs q = L := ⟨_, rfl⟩
    rw [hL] at hlen hrow hJ hin
    have HL := Lib.hid hL
    have HIN := Lib.hid hin
    have HR := Lib.hid hrow
    obtain ⟨A, c, rfl, _, hcell⟩ := own_view hrow
    have HC := Lib.hid hcell
    obtain ⟨m, hN⟩ : ∃ m, L.length = m := ⟨_, rfl⟩
    have HN := Lib.hid hN
    rw [hN] at hlen hrow HR ⊢
    clear hin hL hcell hN
    gi_wp2
    gi_loopw [5, 10] (fun _ s10 w2 => ∃ k : Nat, k ≤ m ∧ s10 = .int .i64 k ∧ w2 = wr ∧ Hid (∀ j (h : j < L.length), j < k → q % L[j] ≠ 0)) (fun _ s10 _ => m - (intOf s10).toNat)
    case atStart => exact ⟨0, Nat.zero_le _, rfl, rfl, fun j h hj => absurd hj (by omega)⟩
    case round =>
      rename_i wr2 _
      obtain ⟨k, hk, rfl, rfl, HM⟩ := hrel
      by_cases hlt : k < m
      · have hlL : k < L.length := by rw [HN.out]; exact hlt
        obtain ⟨ad, rfl, hc⟩ := HC.out k hlL
        have hpin := HIN.out L[k] (List.getElem_mem _)
        have HP := Lib.hid (rfl : L[k] = L[k])
        obtain ⟨p, hp⟩ : ∃ p, L[k] = p := ⟨_, rfl⟩
        have HP := Lib.hid hp
        rw [hp] at hc hpin
        clear hp
        have hrem : (q : Int).tmod (p : Int) = ((q % p : Nat) : Int) := (Int.ofNat_tmod q p).symm
        obtain ⟨r, hr⟩ : ∃ r, q % p = r := ⟨_, rfl⟩
        have HRM := Lib.hid hr
        rw [hr] at hrem
        clear hr
        by_cases hz : r = 0
        · subst hz
          gi_wp2
          have hany : (prs q).any (fun p => q % p == 0) = true := by
            rw [HL.out]
            exact List.any_eq_true.2 ⟨p, by rw [← HP.out]; exact List.getElem_mem _, by rw [HRM.out]; rfl⟩
          have hnx := prs_hit q h2 hany
          exact ⟨⟨q + 1, by omega, by go_num, by rw [hnx, HL.out, HN.out]; exact hlen, by rw [hnx, HL.out, HN.out]; exact HR.out, by rw [hnx, HL.out]; exact hJ, hsz⟩, by simp [intOf]; omega⟩
        · have hz2 : ((r : Int) == 0) = false := by simp; exact hz
          gi_wp2
          go_roundw
          case rel => exact ⟨k + 1, by omega, by go_num, by first | rfl | trivial, fun j h hj => by
            by_cases e : j = k
            · subst e; rw [HP.out, HRM.out]; exact hz
            · exact HM.out j h (by omega)⟩
          case measure => simp [intOf]; omega
      · obtain rfl : k = m := by omega
        have hany : (prs q).any (fun p => q % p == 0) = false := by
          rw [HL.out, List.any_eq_false]
          intro p hp h0
          obtain ⟨j, hj, rfl⟩ := List.getElem_of_mem hp
          exact HM.out j hj (by rw [← HN.out]; exact hj) (by simpa using h0)
        have HNX := Lib.hid (prs_new q h2 hany)
        clear hany
        gi_wp2_with (gi_at_builtin; refine wpListIn_append_own _ rfl (.tmp 19) (.tmp 21) 70 rfl W.heap.size 61 i0 (.int .u64 0) 1 8 Try.underlying70 hi hz0 hz1 hz2 rfl (by decide) _ _ _ rfl (hrow.alloc _) ⟨wr.heap.size, 0, none⟩ 1 1 [.int .u64 (q : Int)] rfl rfl (one_new _ _ _) (by simp [Value.oneCell']) (by simp only [maxLen]; omega) (by omega) (by simp; omega) ?_; intro v2 w1 hown2 hgrow _; have hJ1 := hJT _ _ _ (StepT.row (hrow.alloc _) hW.size hgrow) (hJT _ _ _ (StepT.alloc _ _ _) hJ); obtain ⟨fn, tmps, assign, body, hy, hR⟩ := hY (pms L) (mkP q) w1 hJ1 (by rw [pms_len, HN.out]; exact hlen); simp only [mkP_val q hq] at hy)
        refine hR.mono ?_
        rintro e W3 (⟨rfl, hG3, hJ3, hk3⟩ | ⟨rfl, hx3⟩)
        · have hown3 := own_keep hown2 hk3
          have hsz3 : W.heap.size ≤ W3.heap.size := by
            rcases hown3.2 with ⟨_, h0⟩ | ⟨g, cap, cur, _, hg, hc, _⟩
            · omega
            · have := (Array.getElem?_eq_some_iff.1 hc).1; omega
          gi_wp2
          have hl3 : (prs (q + 1)).length = k + 1 := by rw [HNX.out, List.length_append, HL.out, HN.out]; rfl
          have he3 : encP (prs (q + 1)) = encP L ++ [.int .u64 (q : Int)] := by rw [HNX.out, encP_app, HL.out]; rfl
          exact ⟨⟨q + 1, by omega, by go_num, by rw [HNX.out, HL.out, ← pms_len, pms_app]; exact hG3, by rw [hl3, he3]; exact hown3, by rw [HNX.out, HL.out, pms_app]; exact hJ3, hsz3⟩, by simp [intOf]; omega⟩
        · gi_wp2
          rw [Exit.noGoto_ret]
          refine bodyPost_ret (results_none rfl _ _ _) rfl ?_
          exact ⟨⟨_, rfl⟩, .inr ⟨_, ⟨q, by rw [HNX.out, HL.out, pms_app], hq⟩, hx3⟩⟩
end Go.Proofs.Ythedebalecnldaa.Sha
namespace Go.Proofs.Ythedebalecnldaa.Sha
open Go Go.Proofs Go.RowKit Go.Shelf
attribute [local go_sem] Oper.semAt_some

section
variable {F : Fence} {n : Nat} {P : Program}
theorem load_row_in {ops : Array Oper} {rest : List Oper} {o : Oper} {a : Act} {w : World} {Q : Exit → Act → World → Prop} (hgd : o.guard = none) (ty : TypeId) (x : Operand) (ho : o.op = .load ty x)
    (g : Nat) (hx : a.eval x = .pointer (some ⟨g, 0, none⟩)) (t : TypeId) (cs : Array Value) (fr : Nat × Nat) (d : TypeDesc) (hg : w.heap[g]? = some (.cells cs t fr))
    (hu : P.underlying ty = some d) (hd : (match d with | .struct _ | .array _ _ => true | _ => false) = true) (hi : (P.info? ty).map (·.size) = some cs.size)
    (h : wpListIn F n P ops Q rest (a.put o.dst (.agg cs)) w) : wpListIn F n P ops Q (o :: rest) a w := by
  refine wpListIn_plain hgd fun K hK2 => ?_
  unfold Oper.wpIn
  refine ⟨by simp [Oper.about, ho], ?_⟩
  rw [Oper.semAt_plain F _ _ (by rw [ho]; intro c hc; cases hc)]
  unfold execOp
  simp only [ho, hx, Instr.loadAt, Instr.sureAddr, Sem.run_bind, Sem.run_pure, Result.andThen_ok, run_loadVar_row w g t ty cs fr d hg hu hd hi]
  exact hK2 _ _ h
theorem store_row_in {ops : Array Oper} {rest : List Oper} {o : Oper} {a : Act} {w : World} {Q : Exit → Act → World → Prop} (hgd : o.guard = none) (ty : TypeId) (x y : Operand) (ho : o.op = .store ty x y)
    (g : Nat) (cells : Array Value) (hx : a.eval x = .pointer (some ⟨g, 0, none⟩)) (hy : a.eval y = .agg cells)
    (t : TypeId) (old : Array Value) (hg : w.heap[g]? = some (.cells old t (0, 0))) (hi : (P.info? ty).map (·.size) = some cells.size)
    (hold : old.size = cells.size) (h1 : cells.all (·.oneCell') = true)
    (h : wpListIn F n P ops Q rest (a.put o.dst undef) (w.setRow g cells)) : wpListIn F n P ops Q (o :: rest) a w := by
  refine wpListIn_plain hgd fun K hK2 => ?_
  unfold Oper.wpIn
  refine ⟨by simp [Oper.about, ho], ?_⟩
  rw [Oper.semAt_plain F _ _ (by rw [ho]; intro c hc; cases hc)]
  unfold execOp
  simp only [ho, hx, hy, Instr.storeAt, Instr.sureAddr, Sem.run_bind, Sem.run_pure, Result.andThen_ok, run_storeVar_row w g t ty old cells hg hi hold h1]
  exact hK2 _ _ h
end

def u32 (n : Nat) : Value := .int .u32 ((n % 4294967296 : Nat) : Int)
/-- the table that is made so far, and how many primes it is of -/
def tabStep (s : Array Value × Nat) (p : Nat) : Array Value × Nat :=
  (let A := s.1.setIfInBounds s.2 (u32 (cuV p)); if s.2 < 8 then A.setIfInBounds (64 + s.2) (u32 (sqV p)) else A, s.2 + 1)
def zeros : Array Value := Array.replicate 72 (.int .u32 0)
def tabS (l : List Nat) : Array Value × Nat := l.foldl tabStep (zeros, 0)
def vals (l : List Pm) : List Nat := l.map (·.1)
def tabA (l : List Nat) : Array Value := (tabS l).1
theorem tabS_2 (l : List Nat) : (tabS l).2 = l.length := by
  suffices h : ∀ (l : List Nat) s, (l.foldl tabStep s).2 = s.2 + l.length by have := h l (zeros, 0); simpa [tabS] using this
  intro l; induction l with
  | nil => intro s; rfl
  | cons x l ih => intro s; rw [List.foldl_cons, ih]; simp only [tabStep, List.length_cons]; omega
theorem tabA_app (l : List Nat) (p : Nat) : tabA (l ++ [p]) = (let A := (tabA l).setIfInBounds l.length (u32 (cuV p)); if l.length < 8 then A.setIfInBounds (64 + l.length) (u32 (sqV p)) else A) := by
  show (tabS (l ++ [p])).1 = _
  rw [tabS, List.foldl_append]
  show (tabStep (tabS l) p).1 = _
  unfold tabStep
  rw [tabS_2]; rfl
theorem tabA_size (l : List Nat) : (tabA l).size = 72 := by
  suffices h : ∀ (l : List Nat) s, s.1.size = 72 → (l.foldl tabStep s).1.size = 72 from h l (zeros, 0) (by simp [zeros])
  intro l; induction l with
  | nil => intro s h; exact h
  | cons x l ih => intro s h; rw [List.foldl_cons]; refine ih _ ?_; simp only [tabStep]; split <;> simpa using h
theorem tabA_one (l : List Nat) : (tabA l).all (·.oneCell') = true := by
  suffices h : ∀ (l : List Nat) s, (∀ v ∈ s.1, v.oneCell' = true) → ∀ v ∈ (l.foldl tabStep s).1, v.oneCell' = true by
    rw [Array.all_eq_true_iff_forall_mem]
    exact h l (zeros, 0) (by intro v hv; simp only [zeros, Array.mem_replicate] at hv; rw [hv.2]; rfl)
  intro l; induction l with
  | nil => intro s h; exact h
  | cons x l ih =>
    intro s h; rw [List.foldl_cons]; refine ih _ ?_
    intro v hv
    simp only [tabStep] at hv
    split at hv
    · rcases Array.mem_or_eq_of_mem_setIfInBounds hv with hv | rfl
      · rcases Array.mem_or_eq_of_mem_setIfInBounds hv with hv | rfl
        · exact h _ hv
        · rfl
      · rfl
    · rcases Array.mem_or_eq_of_mem_setIfInBounds hv with hv | rfl
      · exact h _ hv
      · rfl

theorem fnE113 : ∀ args w, (callFunc 18 args).run Try.prog w = .ok (.enter 18 args) w := enters_of Try.func18 (by kernel_rfl) rfl
set_option maxHeartbeats 1000000 in
theorem primes_c (w : World) : Calls Try.prog 11 #[] w fun e w' => e = .returned (.func (.func 18) #[] #[]) ∧ w' = w := by
  go_enter Try.func11, Try.ntmps11
  go_wp2
  go_ret
  exact ⟨rfl, rfl⟩

theorem zeros_eq : Try.zeroCells34 = tabA [] := by kernel_rfl
theorem prs_314_eq : prs 314 = prs 313 ++ [313] := by decide +kernel
theorem vals_pms (L : List Nat) (h : ∀ p ∈ L, p < 314) : vals (pms L) = L := by
  unfold vals pms
  rw [List.map_map]
  conv => rhs; rw [← List.map_id L]
  exact List.map_congr_left fun p hp => mkP_val p (h p hp)
theorem stepT_at {b : Nat} {A B : World} (h : StepT b A B) {k : Nat} {cs : Array Value} {t : TypeId} {fr : Nat × Nat} (hk : A.heap[k]? = some (.cells cs t fr)) (ht : t ≠ 61) : B.heap[k]? = some (.cells cs t fr) := by
  obtain ⟨row, hg, hr⟩ := h
  refine (hg.block k (Array.getElem?_eq_some_iff.1 hk).1 (fun e => ?_)).trans hk
  obtain ⟨_, cs2, h2⟩ := hr k e.symm
  rw [hk] at h2; cases h2; exact ht rfl
theorem stepT_not (b : Nat) (A B : World) (k : Nat) (o : Obj) (h : StepT b A B) (hk : A.heap[k]? = some o) (ho : o.isCells = false) : B.heap[k]? = some o := by
  obtain ⟨row, hg, hr⟩ := h
  refine (hg.block k (Array.getElem?_eq_some_iff.1 hk).1 (fun e => ?_)).trans hk
  obtain ⟨_, cs2, h2⟩ := hr k e.symm
  rw [hk] at h2; cases h2; cases ho
theorem stepT_below {w A B : World} (h : StepT w.heap.size A B) (hb : Below w.heap.size w A) : Below w.heap.size w B := by
  obtain ⟨row, hg, hr⟩ := h
  exact hb.grown hg hb.size (fun k e => (hr k e).1)
theorem keep_t {A B C : World} (h : Keep145 A B) (k : Keep145 B C) : Keep145 A C := fun i cs hi => k i cs (h i cs hi)
theorem keep_b (W : World) (l : Nat) (o o2 : Obj) (h : W.heap[l]? = some o) (ho : o.isCells = false) : Keep145 W (W.putObj l o2) := fun i cs hi =>
  (World.putObj_heap_other (fun e => by subst e; rw [h] at hi; cases hi; cases ho)).trans hi
theorem keep_alloc (W : World) (o : Obj) : Keep145 W (W.alloc o) := fun i _ hi => (Below.heap_alloc W o i (Array.getElem?_eq_some_iff.1 hi).1).trans hi
theorem keep_set {W : World} {b : Nat} {cs : Array Value} {t : TypeId} {fr : Nat × Nat} (h : W.heap[b]? = some (.cells cs t fr)) (ht : t ≠ 61) (i : Nat) (v : Value) : Keep145 W (W.setCell ⟨b, i, none⟩ v) := fun k cs2 hk =>
  (heap_setCell_other W ⟨b, i, none⟩ k v (fun e => by subst e; rw [h] at hk; cases hk; exact ht rfl)).trans hk

/-- what a step in the body keeps -/
def Ok (w W V : World) : Prop := KeepsOthers W V ∧ Keep145 W V ∧ Below w.heap.size w V
theorem ok_new {w W : World} (p : Nat) (hb : Below w.heap.size w W) : Ok w W (W.drew.alloc (box p)) :=
  ⟨(KeepsOthers.drew W).trans (KeepsOthers.alloc _ _), fun k cs h => keep_alloc W.drew (box p) k cs h, (hb.drew).alloc hb.size _⟩
theorem Ok.set {w W V : World} (h : Ok w W V) {b : Nat} {cs : Array Value} {t : TypeId} {fr : Nat × Nat} (hc : V.heap[b]? = some (.cells cs t fr)) (ht : t ≠ 61) (hb : w.heap.size ≤ b) (i : Nat) (v : Value) : Ok w W (V.setCell ⟨b, i, none⟩ v) :=
  ⟨h.1.trans (KeepsOthers.setCell _ _ _), keep_t h.2.1 (keep_set hc ht i v), h.2.2.setCell (p := ⟨b, i, none⟩) hb v⟩
theorem Ok.trans {w W V U : World} (h : Ok w W V) (k : Ok w V U) : Ok w W U := ⟨h.1.trans k.1, keep_t h.2.1 k.2.1, k.2.2⟩

/-- what stands while the table is made -/
def Inv (w : World) (l : List Nat) (W : World) : Prop :=
  W.heap[w.heap.size]? = some (.cells Try.zeroCells34 34 (0, 0)) ∧ W.heap[w.heap.size + 1]? = some (.cells (tabA l) 34 (0, 0)) ∧ Boxed W (w.heap.size + 1 + 1) 3 (.int .i64 (l.length : Int)) ∧ Below w.heap.size w W
theorem Inv.step {w A B : World} {l : List Nat} (h : StepT w.heap.size A B) (hi : Inv w l A) : Inv w l B :=
  ⟨stepT_at h hi.1 (by decide), stepT_at h hi.2.1 (by decide), stepT_at h hi.2.2.1 (by decide), stepT_below h hi.2.2.2⟩
theorem Inv.own (w : World) (B0 : Nat) (hB : w.heap.size ≤ B0) {A A2 : World} {row : Option Nat} {l : List Nat} (hi : Inv w l A) (hg : A.grownBy A2 row) (hr : ∀ r, row = some r → B0 ≤ r ∧ ∃ o : Obj, A.heap[r]? = some o ∧ o.isCells = false) : Inv w l A2 := by
  have hk : ∀ (k : Nat) (cs : Array Value) (t : TypeId), A.heap[k]? = some (.cells cs t (0, 0)) → A2.heap[k]? = some (.cells cs t (0, 0)) := fun k cs t h =>
    (hg.block k (Array.getElem?_eq_some_iff.1 h).1 (fun e => by obtain ⟨_, o, ho, hc⟩ := hr k e.symm; rw [h] at ho; cases ho; cases hc)).trans h
  exact ⟨hk _ _ _ hi.1, hk _ _ _ hi.2.1, hk _ _ _ hi.2.2.1, hi.2.2.2.grown hg hi.2.2.2.size (fun k e => Nat.le_trans hB (hr k e).1)⟩

theorem fin_round {w W V : World} {pre : List Pm} {x : Pm} {i B0 : Nat} (T : Array Value) (hO : Ok w W V) (v0 : V.heap[w.heap.size]? = some (.cells Try.zeroCells34 34 (0, 0))) (v1 : V.heap[w.heap.size + 1]? = some (.cells T 34 (0, 0))) (v2 : Boxed V (w.heap.size + 1 + 1) 3 (.int .i64 (i : Int)))
    (hT : tabA (vals (pre ++ [x])) = T) (hi : pre.length = i) (hlt : i < 64) :
    KeepsFrom B0 W (V.setCell ⟨w.heap.size + 1 + 1, 0, none⟩ (.int .i64 ((i : Int) + 1))) ∧ (pre ++ [x]).length < 65 ∧ Keep145 W (V.setCell ⟨w.heap.size + 1 + 1, 0, none⟩ (.int .i64 ((i : Int) + 1))) ∧ Inv w (vals (pre ++ [x])) (V.setCell ⟨w.heap.size + 1 + 1, 0, none⟩ (.int .i64 ((i : Int) + 1))) := by
  have hO2 := hO.set v2 (by decide) (by omega) 0 (.int .i64 ((i : Int) + 1))
  refine ⟨hO2.1.from _, by simp [hi]; omega, hO2.2.1, ?_, ?_, ?_, hO2.2.2⟩
  · exact (heap_setCell_other _ _ _ _ (by show w.heap.size ≠ w.heap.size + 1 + 1; omega)).trans v0
  · rw [hT]; exact (heap_setCell_other _ _ _ _ (by show w.heap.size + 1 ≠ w.heap.size + 1 + 1; omega)).trans v1
  · have e : (((vals (pre ++ [x])).length : Nat) : Int) = (i : Int) + 1 := by simp [vals, hi]
    rw [e]; exact v2.set _
/-- how the loop is left -/
def Out (w : World) (c : Code) (pre : List Pm) (W : World) : Prop := c = .exit 0 ∧ ∃ (l : List Pm) (x : Pm), pre = l ++ [x] ∧ l.length = 64 ∧ Inv w (vals l) W

set_option maxRecDepth 100000 in
set_option maxHeartbeats 4000000 in
theorem make_in (w : World) : CallsIn Fence.wide 6 Try.prog 6 #[] w fun e w' => e = .returned (.agg (tabA (prs 313))) ∧ Below w.heap.size w w' := by
  have zv := Try.zeroValue34
  have zn := Try.zeroCells34_ne
  refine callsIn_of_wp_marks Try.func6 rfl trivial ?_ rfl
  simp only [Try.ntmps6, List.size_toArray, List.length_nil, Nat.reduceSub, Array.replicate_succ, Array.replicate_zero, List.push_toArray, List.append_toArray, List.nil_append, List.cons_append]
  gi_wp2_with (refine ⟨trivial, ?_⟩; gi_at_call 11; refine (callsIn_wide.2 (primes_c _)).mono ?_; rintro e w' ⟨rfl, rfl⟩)
  have hB0 : Below w.heap.size w (((w.alloc (.cells Try.zeroCells34 34)).alloc (.cells Try.zeroCells34 34)).alloc (.cells #[.int .i64 0] 3)) := (((Below.refl _ w).alloc (Nat.le_refl _) _).alloc (by simp) _).alloc (by simp <;> omega) _
  have hb0 : (((w.alloc (.cells Try.zeroCells34 34)).alloc (.cells Try.zeroCells34 34)).alloc (.cells #[.int .i64 0] 3)).heap[w.heap.size]? = some (.cells Try.zeroCells34 34 (0, 0)) :=
    (Below.heap_alloc _ _ _ (by simp <;> omega)).trans ((Below.heap_alloc _ _ _ (by simp)).trans (World.alloc_heap_new w _))
  have hb1 : (((w.alloc (.cells Try.zeroCells34 34)).alloc (.cells Try.zeroCells34 34)).alloc (.cells #[.int .i64 0] 3)).heap[w.heap.size + 1]? = some (.cells (tabA []) 34 (0, 0)) := by
    rw [← zeros_eq]
    refine (Below.heap_alloc _ _ _ (by simp)).trans ?_
    have h := World.alloc_heap_new (w.alloc (.cells Try.zeroCells34 34)) (.cells Try.zeroCells34 34)
    rwa [World.size_alloc] at h
  have hb2 : Boxed (((w.alloc (.cells Try.zeroCells34 34)).alloc (.cells Try.zeroCells34 34)).alloc (.cells #[.int .i64 0] 3)) (w.heap.size + 1 + 1) 3 (.int .i64 0) := by
    have h := Boxed.new ((w.alloc (.cells Try.zeroCells34 34)).alloc (.cells Try.zeroCells34 34)) 3 (.int .i64 0)
    rwa [World.size_alloc, World.size_alloc] at h
  have hsz : (((w.alloc (.cells Try.zeroCells34 34)).alloc (.cells Try.zeroCells34 34)).alloc (.cells #[.int .i64 0] 3)).heap.size = w.heap.size + 3 := by simp
  obtain ⟨W0, hW0⟩ : ∃ W0, ((w.alloc (.cells Try.zeroCells34 34)).alloc (.cells Try.zeroCells34 34)).alloc (.cells #[.int .i64 0] 3) = W0 := ⟨_, rfl⟩
  rw [hW0] at hB0 hb0 hb1 hb2 hsz ⊢
  have hI0 : Inv w [] W0 := ⟨hb0, hb1, hb2, hB0⟩
  clear hW0 hb0 hb1 hb2
  refine range_step (α := Pm) (encs := fun (p : Pm) => #[.int .u64 (p.1 : Int)]) (N := 65) (Kp := Keep145) (T := StepT w.heap.size) (G := fun l => l.length < 65) rfl (Nat.le_add_left 1 5) (gf := 18) (lb := #[]) rfl trivial fnE113
    (primes1 Fence.wide 5 trivial rfl (by omega) w) (stepT_not _) keep_t (fun V l o o2 _ h hc => keep_b V l o o2 h hc) hB0 (fun _ => rfl)
    (fun (pre : List Pm) W => Inv w (vals pre) W)
    (Out w)
    (fun s A A2 row hs hg hr => hs.own w _ (by rw [hsz]; omega) hg hr)
    (fun c s A A2 row hs hg hr => by obtain ⟨hc, l, x, e1, e2, h⟩ := hs; exact ⟨hc, l, x, e1, e2, h.own w _ (by rw [hsz]; omega) hg hr⟩)
    (fun s A B hT h => h.step hT) (fun c s A B hT hs => by obtain ⟨hc, l, x, e1, e2, h⟩ := hs; exact ⟨hc, l, x, e1, e2, h.step hT⟩)
    hI0
    (fun x => { tmps := #[.pointer (some ⟨w.heap.size, 0, none⟩), .pointer (some ⟨w.heap.size + 1, 0, none⟩), .pointer (some ⟨w.heap.size + 1 + 1, 0, none⟩), .int .u64 (x.1 : Int), .func (.func 18) #[] #[], .int .u64 (x.1 : Int), undef, undef, undef, undef, undef, undef, undef, undef, undef, undef, undef, undef, undef, undef, undef, undef, undef], defers := [] }) ?assign ?body ?done ?stop
  case assign =>
    intro l x W K hK
    gi_wp2
    exact hK
  case body =>
    rintro l pre x W ⟨h0, h1, h2, hB⟩ hlen
    have hp := x.2
    have HX : Hid (tabA (vals (pre ++ [x])) = (let A := (tabA (vals pre)).setIfInBounds (vals pre).length (u32 (cuV x.1)); if (vals pre).length < 8 then A.setIfInBounds (64 + (vals pre).length) (u32 (sqV x.1)) else A)) := Lib.hid (by rw [vals, List.map_append]; exact tabA_app (vals pre) x.1)
    have hvl : (vals (pre ++ [x])).length = (vals pre).length + 1 := by simp [vals]
    have HVL := Lib.hid hvl
    have hl2 : (vals pre).length = pre.length := by simp [vals]
    obtain ⟨i, hi⟩ : ∃ i, pre.length = i := ⟨_, rfl⟩
    rw [hi] at hl2 hlen
    have HI := Lib.hid hi
    have HL2 := Lib.hid hl2
    rw [hl2] at h2
    clear hi hl2 hvl
    have hc2 := h2.cell
    by_cases h64 : i = 64
    · subst h64
      gi_wp2
      exact ⟨KeepsFrom.refl _ _, rfl, pre, x, rfl, HI.out, h0, h1, by rw [HL2.out]; exact h2, hB⟩
    · obtain ⟨W1, hW1⟩ : ∃ W1, W.drew.alloc (box x.1) = W1 := ⟨_, rfl⟩
      have HC : Hid (Calls Try.prog 12 #[.int .u64 x.1] W.drew fun e w' => e = .returned (.int .u32 (cuV x.1 % 4294967296 : Nat)) ∧ w' = W1) := Lib.hid (by rw [← hW1]; exact cube_c x.1 hp W.drew)
      have hal : ∀ k o, W.heap[k]? = some o → W1.heap[k]? = some o := fun k o h => by rw [← hW1]; exact (Below.heap_alloc _ _ _ (Array.getElem?_eq_some_iff.1 h).1).trans h
      have a0 := hal _ _ h0
      have a1 := hal _ _ h1
      have a2 : Boxed W1 (w.heap.size + 1 + 1) 3 (.int .i64 (i : Int)) := hal _ _ h2
      have ac : W1.cell? ⟨w.heap.size + 1, i, none⟩ = some ((tabA (vals pre))[i]'(by rw [tabA_size]; omega)) := by
        rw [cell_of_row W1 _ i _ _ _ a1]; simp [tabA_size, show i < 72 by omega]
      have af := frozen_of_row W1 (w.heap.size + 1) i _ _ a1
      have ac2 := a2.cell
      have af2 := a2.frozen
      generalize (tabA (vals pre))[i]'(by rw [tabA_size]; omega) = old at ac
      obtain ⟨cv, hcv⟩ : ∃ cv, cuV x.1 % 4294967296 = cv := ⟨_, rfl⟩
      have HCV : Hid (u32 (cuV x.1) = .int .u32 (cv : Int)) := Lib.hid (by unfold u32; rw [hcv])
      rw [hcv] at HC
      clear hcv
      obtain ⟨sv, hsv⟩ : ∃ sv, sqV x.1 % 4294967296 = sv := ⟨_, rfl⟩
      have HSV : Hid (u32 (sqV x.1) = .int .u32 (sv : Int)) := Lib.hid (by unfold u32; rw [hsv])
      have HSC : Hid (∀ W, Calls Try.prog 13 #[.int .u64 x.1] W fun e w' => e = .returned (.int .u32 (sv : Int)) ∧ w' = W.alloc (box x.1)) := Lib.hid (fun W => by rw [← hsv]; exact square_c x.1 hp W)
      clear hsv
      gi_wp2_with fail
      gi_region_with (refine ⟨trivial, ?_⟩; gi_at_call 12; refine (CallsIn.inRound l (callsIn_wide.2 HC.out)).mono ?_; rintro e w' ⟨rfl, rfl⟩)
      all_goals
        obtain ⟨W2, hW2⟩ : ∃ W2, w'.setCell ⟨w.heap.size + 1, i, none⟩ (.int .u32 (cv : Int)) = W2 := ⟨_, rfl⟩
        rw [hW2]
        have hO2 : Ok w W W2 := by rw [← hW2, ← hW1]; rw [← hW1] at a1; exact (ok_new x.1 hB).set a1 (by decide) (by omega) _ _
        have b0 : W2.heap[w.heap.size]? = some (.cells Try.zeroCells34 34 (0, 0)) := by rw [← hW2]; exact (heap_setCell_other _ _ _ _ (by show w.heap.size ≠ w.heap.size + 1; omega)).trans a0
        have b1 : W2.heap[w.heap.size + 1]? = some (.cells ((tabA (vals pre)).setIfInBounds i (.int .u32 (cv : Int))) 34 (0, 0)) := by rw [← hW2]; exact heap_setCell_same _ _ _ _ _ _ a1
        have b2 : Boxed W2 (w.heap.size + 1 + 1) 3 (.int .i64 (i : Int)) := by rw [← hW2]; exact (heap_setCell_other _ _ _ _ (by show w.heap.size + 1 + 1 ≠ w.heap.size + 1; omega)).trans a2
        have bc2 := b2.cell
        have bf2 := b2.frozen
        clear HC hal a0 a1 a2 af ac2 af2 ac hW2 hW1
        by_cases h8 : i < 8
        · obtain ⟨W3, hW3⟩ : ∃ W3, W2.drew.alloc (box x.1) = W3 := ⟨_, rfl⟩
          have HC3 : Hid (Calls Try.prog 13 #[.int .u64 x.1] W2.drew fun e w' => e = .returned (.int .u32 (sv : Int)) ∧ w' = W3) := Lib.hid (by rw [← hW3]; exact HSC.out _)
          have hal : ∀ k o, W2.heap[k]? = some o → W3.heap[k]? = some o := fun k o h => by rw [← hW3]; exact (Below.heap_alloc _ _ _ (Array.getElem?_eq_some_iff.1 h).1).trans h
          have c0 := hal _ _ b0
          have c1 := hal _ _ b1
          have c2 : Boxed W3 (w.heap.size + 1 + 1) 3 (.int .i64 (i : Int)) := hal _ _ b2
          have cc : ∃ old2, W3.cell? ⟨w.heap.size + 1, 64 + i, none⟩ = some old2 := by
            refine ⟨((tabA (vals pre)).setIfInBounds i (.int .u32 (cv : Int)))[64 + i]'(by simp [tabA_size]; omega), ?_⟩
            rw [cell_of_row W3 _ _ _ _ _ c1]; simp [tabA_size, show 64 + i < 72 by omega]
          obtain ⟨old2, cc⟩ := cc
          have cf := frozen_of_row W3 (w.heap.size + 1) (64 + i) _ _ c1
          have cc2 := c2.cell
          have cf2 := c2.frozen
          gi_wp2_with fail
          gi_region_with (refine ⟨trivial, ?_⟩; gi_at_call 13; refine (CallsIn.inRound l (callsIn_wide.2 HC3.out)).mono ?_; rintro e w' ⟨rfl, rfl⟩)
          all_goals
            obtain ⟨W4, hW4⟩ : ∃ W4, w'.setCell ⟨w.heap.size + 1, 64 + i, none⟩ (.int .u32 (sv : Int)) = W4 := ⟨_, rfl⟩
            rw [hW4]
            have hO4 : Ok w W W4 := by rw [← hW4, ← hW3]; rw [← hW3] at c1; exact hO2.trans ((ok_new x.1 hO2.2.2).set c1 (by decide) (by omega) _ _)
            have d0 : W4.heap[w.heap.size]? = some (.cells Try.zeroCells34 34 (0, 0)) := by rw [← hW4]; exact (heap_setCell_other _ _ _ _ (by show w.heap.size ≠ w.heap.size + 1; omega)).trans c0
            have d1 : W4.heap[w.heap.size + 1]? = some (.cells (((tabA (vals pre)).setIfInBounds i (.int .u32 (cv : Int))).setIfInBounds (64 + i) (.int .u32 (sv : Int))) 34 (0, 0)) := by rw [← hW4]; exact heap_setCell_same _ _ _ _ _ _ c1
            have d2 : Boxed W4 (w.heap.size + 1 + 1) 3 (.int .i64 (i : Int)) := by rw [← hW4]; exact (heap_setCell_other _ _ _ _ (by show w.heap.size + 1 + 1 ≠ w.heap.size + 1; omega)).trans c2
            have dc2 := d2.cell
            have df2 := d2.frozen
            clear HC3 hal c0 c1 c2 cc cf cc2 cf2 hW4 hW3 b0 b1 b2 bc2 bf2
            gi_wp2
            exact fin_round _ hO4 d0 d1 d2 (by rw [HX.out, if_pos (by rw [HL2.out]; exact h8), HL2.out, HCV.out, HSV.out]) HI.out (by omega)
        · gi_wp2
          exact fin_round _ hO2 b0 b1 b2 (by rw [HX.out, if_neg (by rw [HL2.out]; exact h8), HL2.out, HCV.out]) HI.out (by omega)
  case done => intro D xs W _ hS; exact hS.elim
  case stop =>
    rintro D c pre W hD ⟨q, rfl, hq⟩ ⟨rfl, l, x, e1, e2, h0, h1, h2, hB⟩ hd
    have hlen : (prs (q + 1)).length = 65 := by rw [← pms_len, e1]; simp [e2]
    have hq2 : q = 313 := by
      rcases Nat.lt_or_ge q 313 with h | h
      · have := prs_mono (q + 1) 313 h; rw [prs_313] at this; omega
      · omega
    subst hq2
    rw [prs_314_eq, pms_app] at e1
    obtain ⟨e3, _⟩ := List.append_inj' e1 rfl
    subst e3
    rw [vals_pms _ (fun p hp => by have := prs_in 313 p hp; omega)] at h1
    obtain ⟨T, hT⟩ : ∃ T, tabA (prs 313) = T := ⟨_, rfl⟩
    have hTs : T.size = 72 := by rw [← hT, tabA_size]
    have hT1 : T.all (·.oneCell') = true := by rw [← hT]; exact tabA_one _
    rw [hT] at h1
    have HT := Lib.hid hT
    have HI : Hid ((Try.prog.info? 34).map (·.size) = some T.size) := Lib.hid (by rw [hTs]; kernel_rfl)
    have HZ : Hid (Try.zeroCells34.size = T.size) := Lib.hid (by rw [hTs, zeros_eq, tabA_size])
    clear hT hTs e1 e2 hlen hq
    gi_wp2_with (first
      | (refine load_row_in rfl 34 (.tmp 1) rfl (w.heap.size + 1) rfl 34 T (0, 0) _ h1 Try.underlying34 rfl HI.out ?_)
      | (refine store_row_in rfl 34 (.tmp 0) (.tmp 22) rfl (w.heap.size) T rfl rfl 34 _ h0 HI.out HZ.out hT1 ?_))
    have hB2 : Below w.heap.size w (W.setRow w.heap.size T) := hB.trans ⟨rfl, rfl, rfl, by rw [size_setRow]; exact Nat.le_refl _, fun k hk => setRow_other W w.heap.size k T (by omega)⟩
    have hR := setRow_heap W w.heap.size _ T _ _ h0
    have hd2 : (W.setRow w.heap.size T).heap[D]? = some (.deferred (some [])) := (setRow_other W w.heap.size D T (by omega)).trans hd
    generalize W.setRow w.heap.size T = V at *
    refine ⟨by simp, .inl ⟨_, _, rfl, run_takeDeferred hd2, ?_⟩⟩
    have hR2 : (V.putObj D (.deferred none)).heap[w.heap.size]? = some (.cells T 34 (0, 0)) := (World.putObj_heap_other (by omega)).trans hR
    exact ⟨_, results_cell_row (p := 0) (ty := 34) rfl _ _ w.heap.size 34 _ _ _ rfl hR2 Try.underlying34 rfl HI.out, by rw [HT.out], hB2.trans (belowK_b (w := w) (Nat.le_refl _) _ D _ _ (by omega) hd2 rfl rfl)⟩
end Go.Proofs.Ythedebalecnldaa.Sha
namespace Go.Proofs.Ythedebalecnldaa.ShaP
open Go Go.RowKit Go.Proofs.YthedebalecnldaaW.PrintWords
/-- the table's cells -/
def TV : Array Value := Sha.tabA (Sha.prs 313)
set_option maxRecDepth 100000 in
theorem tv_size : TV.size = 72 := by kernel_rfl
/-- sha.Make: the table -/
theorem make_c (w : World) : Calls Try.prog 6 #[] w fun e w' => e = .returned (.agg TV) ∧ Below w.heap.size w w' := callsIn_wide.1 (Sha.make_in w)
end Go.Proofs.Ythedebalecnldaa.ShaP
namespace Go.Proofs.Ythedebalecnldaa.Rp
open Go Go.RowKit Go.Proofs.YthedebalecnldaaW.PrintWords Go.Proofs.Ythedebalecnldaa.Mp Go.Proofs.Ythedebalecnldaa.Pt Go.Proofs.Ythedebalecnldaa.ShaP
open Go.Proofs.Ythedebalecnldaa.Dec (Sl Pp upd upd_self upd_ne e0 fresh promP accP isB sl0)
set_option linter.unusedVariables false
def encM (x : Mg) : List Value := [.int .i64 x.kd, .int .i64 x.fr, .int .i64 x.dst, .int .i64 x.sl, .int .i64 x.bal, .int .i64 x.acc, .string x.val]
def encQ (x : Rq) : List Value := [.int .i64 x.cl, .int .i64 x.sq, .string x.leaf, .string x.key, .string x.val]
def encH (x : Hd) : List Value := [.int .i64 x.sq, .int .i64 x.sz, .int .i64 x.tm, .string x.rt, .string x.mp]
def encT (x : Lst) : List Value := [.int .i64 x.sq, .int .i64 x.ct, .int .i64 x.ry.err, .int .i64 x.ry.ix, .int .i64 x.ry.hd]
abbrev KM : Kd Mg := flat 7 encM (fun _ => rfl) (fun x u hu => by simp [encM] at hu; rcases hu with rfl | rfl | rfl | rfl | rfl | rfl | rfl <;> rfl)
abbrev KQ : Kd Rq := flat 5 encQ (fun _ => rfl) (fun x u hu => by simp [encQ] at hu; rcases hu with rfl | rfl | rfl | rfl | rfl <;> rfl)
abbrev KH : Kd Hd := flat 5 encH (fun _ => rfl) (fun x u hu => by simp [encH] at hu; rcases hu with rfl | rfl | rfl | rfl | rfl <;> rfl)
def ptr (q : Nat) : Value := .pointer (some ⟨q, 0, none⟩)
def slV (s : Sl) : Value := .agg #[.int .i64 s.pr, .int .i64 s.bal, .string s.val]
def ryV (y : Ry) : Value := .agg #[.int .i64 y.err, .int .i64 y.ix, .int .i64 y.hd]
def kyV (k : Int × Int) : Value := .agg #[.int .i64 k.1, .int .i64 k.2]
def latC (f : Int → Option ByteArray) : Cont := fun v => match v with | .int .i64 k => (f k).map Value.string | _ => none
def slC (f : Int → Option Sl) : Cont := fun v => match v with | .int .i64 k => (f k).map slV | _ => none
def ocC (f : Int × Int → Option Ry) : Cont := fun v => match v with | .agg ⟨[.int .i64 a, .int .i64 b]⟩ => (f (a, b)).map ryV | _ => none
/-- where its parts lie -/
structure Lay where
  vlog : Value
  glat : Nat
  gsl : Nat
  vqu : Value
  gp : Nat
  vout : Value
  vrq : Value
  vhd : Value
  goc : Nat
def ppc (n : Nat) (p : Pp) : Array Value := #[.int .i64 n, .int .i64 p.b, .int .i64 p.ph, .string p.v, .int .i64 p.best, .string p.fd, .int .u64 p.pr, .int .u64 p.tk]
def pptr (L : Lay) (p : Option Pp) : Value := match p with | none => .pointer none | some _ => ptr L.gp
def pprt (L : Lay) (n : Nat) (p : Option Pp) : Part := match p with | none => nil | some p => blk L.gp 85 (ppc n p)
def cl4 (l : List Lst) : List Value := encT (l.getD 0 lst0) ++ encT (l.getD 1 lst0) ++ encT (l.getD 2 lst0) ++ encT (l.getD 3 lst0)
/-- a state's cells -/
def stc (L : Lay) (s : St) : List Value := L.vrq :: (cl4 s.cl ++ [L.vhd])
/-- the cells behind the table -/
def tail (L : Lay) (r : R) : List Value := [.int .i64 r.id, .int .i64 r.n, .int .i64 r.rd, L.vlog, .map (some L.glat), .map (some L.gsl), L.vqu, pptr L r.p, L.vout] ++ stc L r.st ++ [.map (some L.goc)]
def rcs (L : Lay) (r : R) : Array Value := TV ++ (tail L r).toArray
theorem rcs_get (L : Lay) (r : R) (i : Nat) : (rcs L r)[72 + i]? = (tail L r)[i]? := by
  unfold rcs
  rw [Array.getElem?_append_right (by rw [tv_size]; omega), tv_size, Nat.add_sub_cancel_left, List.getElem?_toArray]
theorem rcs_set (L L' : Lay) (r r' : R) (i : Nat) (v : Value) (e : (tail L r).set i v = tail L' r') : (rcs L r).setIfInBounds (72 + i) v = rcs L' r' := by
  unfold rcs
  rw [Array.setIfInBounds_append_right (by rw [tv_size]; omega), tv_size, Nat.add_sub_cancel_left, List.setIfInBounds_toArray, e]
/-- its parts -/
def parts (base g : Nat) (L : Lay) (r : R) : List Part :=
  [blk g 57 (rcs L r), row Kd.string flat_string 9 base L.vlog r.log, imap Try.prog 3 L.glat (latC r.lat), imap Try.prog 3 L.gsl (slC r.sl), row Kd.string flat_string 9 base L.vqu r.qu,
   pprt L r.n r.p, row KM flat_flat 82 base L.vout r.out, row KQ flat_flat 24 base L.vrq r.st.rq, row KH flat_flat 104 base L.vhd r.st.hd, imap Try.prog 65 L.goc (ocC r.oc)]
/-- block g of W is the replica r -/
def Is (base : Nat) (W : World) (g : Nat) (L : Lay) (r : R) : Prop := Parts base W (parts base g L r)
/-- its blocks -/
abbrev Own (base g : Nat) (L : Lay) (r : R) : Nat → Prop := Foot (parts base g L r)
variable {base g : Nat} {W W1 W2 : World} {L L' : Lay} {r r' : R}
theorem Is.cell (h : Is base W g L r) (i : Nat) : W.cell? ⟨g, 72 + i, none⟩ = (tail L r)[i]? := (Parts.cell h 0 rfl (72 + i)).trans (rcs_get L r i)
theorem Is.c_id (h : Is base W g L r) : W.cell? ⟨g, 72, none⟩ = some (.int .i64 r.id) := (h.cell 0).trans rfl
theorem Is.c_n (h : Is base W g L r) : W.cell? ⟨g, 73, none⟩ = some (.int .i64 r.n) := (h.cell 1).trans rfl
theorem Is.c_rd (h : Is base W g L r) : W.cell? ⟨g, 74, none⟩ = some (.int .i64 r.rd) := (h.cell 2).trans rfl
theorem Is.c_log (h : Is base W g L r) : W.cell? ⟨g, 75, none⟩ = some (L.vlog) := (h.cell 3).trans rfl
theorem Is.c_qu (h : Is base W g L r) : W.cell? ⟨g, 78, none⟩ = some (L.vqu) := (h.cell 6).trans rfl
theorem Is.c_p (h : Is base W g L r) : W.cell? ⟨g, 79, none⟩ = some (pptr L r.p) := (h.cell 7).trans rfl
theorem Is.c_out (h : Is base W g L r) : W.cell? ⟨g, 80, none⟩ = some (L.vout) := (h.cell 8).trans rfl
theorem Is.c_oc (h : Is base W g L r) : W.cell? ⟨g, 103, none⟩ = some (.map (some L.goc)) := (h.cell 31).trans rfl
theorem Is.frz (h : Is base W g L r) (i : Nat) : W.frozen? ⟨g, i, none⟩ = false := Parts.frozen h 0 rfl i
theorem Is.blk (h : Is base W g L r) : W.heap[g]? = some (.cells (rcs L r) 57 (0, 0)) := Parts.ok h 0 rfl
theorem Is.log (h : Is base W g L r) : Kd.string.R 9 W base (fun _ => True) L.vlog r.log := Parts.ok h 1 rfl
theorem Is.lat (h : Is base W g L r) : IMap W Try.prog 3 L.glat (latC r.lat) := Parts.ok h 2 rfl
theorem Is.qu (h : Is base W g L r) : Kd.string.R 9 W base (fun _ => True) L.vqu r.qu := Parts.ok h 4 rfl
theorem Is.out (h : Is base W g L r) : KM.R 82 W base (fun _ => True) L.vout r.out := Parts.ok h 6 rfl
theorem Is.rq (h : Is base W g L r) : KQ.R 24 W base (fun _ => True) L.vrq r.st.rq := Parts.ok h 7 rfl
theorem Is.hd (h : Is base W g L r) : KH.R 104 W base (fun _ => True) L.vhd r.st.hd := Parts.ok h 8 rfl
theorem Is.oc (h : Is base W g L r) : IMap W Try.prog 65 L.goc (ocC r.oc) := Parts.ok h 9 rfl
theorem Is.pp (h : Is base W g L r) {p : Pp} (hp : r.p = some p) : W.heap[L.gp]? = some (.cells (ppc r.n p) 85 (0, 0)) := by
  have h5 : (pprt L r.n r.p).ok W := Parts.ok h 5 rfl
  rw [hp] at h5
  exact h5
theorem Is.below (h : Is base W g L r) (hB : Below W.heap.size W W1) : Is base W1 g L r := Parts.below h hB
theorem Is.drew (h : Is base W g L r) : Is base W.drew g L r := Parts.drew h
theorem Is.lt (h : Is base W g L r) (k : Nat) (hk : Own base g L r k) : k < W.heap.size := Parts.lt h k hk
theorem Is.ge (h : Is base W g L r) (k : Nat) (hk : Own base g L r k) : base ≤ k := Parts.ge h k hk
theorem Is.glt (h : Is base W g L r) : g < W.heap.size := blk_lt h.blk
/-- a row of one element more, and its field -/
theorem Is.row_field {α : Type} {kd : Kd α} (hf : Flat kd) {e : Nat} {v v1 : Value} {xs ys : List α} (h : Is base W g L r) (hb : base ≤ W.heap.size) (i j : Nat) (hp : (parts base g L r)[i]? = some (row kd hf e base v xs)) (hi : i ≠ 0) (hr : kd.R e W1 base (fun _ => True) v1 ys) (hg : W.grownBy W1 v.ownBlock) (hat : v1.ownBlock = v.ownBlock ∨ ∃ b, v1.ownBlock = some b ∧ W.heap.size ≤ b)
    (ht : (tail L r).set j v1 = tail L' r') (hl : ((parts base g L r).set i (row kd hf e base v1 ys)).set 0 (Pt.blk g 57 (rcs L' r')) = parts base g L' r') :
    Is base (W1.setCell ⟨g, 72 + j, none⟩ v1) g L' r' ∧ Turn W (W1.setCell ⟨g, 72 + j, none⟩ v1) (Own base g L r) (Own base g L' r') := by
  obtain ⟨h1, t1⟩ := Parts.put_row h hb i hp hr hg hat
  have h0 : ((parts base g L r).set i (row kd hf e base v1 ys))[0]? = some (Pt.blk g 57 (rcs L r)) := by
    rw [List.getElem?_set_ne hi]; rfl
  obtain ⟨h2, t2⟩ := Parts.set h1 (Nat.le_trans hb t1.size) 0 h0 (72 + j) v1 (rcs L' r') (rcs_set L L' r r' j v1 ht)
  rw [hl] at h2 t2
  exact ⟨h2, t1.trans t2⟩
/-- a field that tells of no block -/
theorem Is.field (h : Is base W g L r) (hb : base ≤ W.heap.size) (j : Nat) (v : Value) (ht : (tail L r).set j v = tail L' r') (hl : (parts base g L r).set 0 (Pt.blk g 57 (rcs L' r')) = parts base g L' r') :
    Is base (W.setCell ⟨g, 72 + j, none⟩ v) g L' r' ∧ Turn W (W.setCell ⟨g, 72 + j, none⟩ v) (Own base g L r) (Own base g L' r') := by
  obtain ⟨h2, t2⟩ := Parts.set h hb 0 rfl (72 + j) v (rcs L' r') (rcs_set L L' r r' j v ht)
  rw [hl] at h2 t2
  exact ⟨h2, t2⟩
theorem Is.app_out (h : Is base W g L r) (hb : base ≤ W.heap.size) {v1 : Value} {ys : List Mg} (hr : KM.R 82 W1 base (fun _ => True) v1 ys) (hg : W.grownBy W1 L.vout.ownBlock) (hat : v1.ownBlock = L.vout.ownBlock ∨ ∃ b, v1.ownBlock = some b ∧ W.heap.size ≤ b) :
    Is base (W1.setCell ⟨g, 80, none⟩ v1) g { L with vout := v1 } { r with out := ys } ∧ Turn W (W1.setCell ⟨g, 80, none⟩ v1) (Own base g L r) (Own base g { L with vout := v1 } { r with out := ys }) :=
  h.row_field flat_flat hb 6 8 rfl (by decide) hr hg hat rfl rfl
theorem Is.app_qu (h : Is base W g L r) (hb : base ≤ W.heap.size) {v1 : Value} {ys : List ByteArray} (hr : Kd.string.R 9 W1 base (fun _ => True) v1 ys) (hg : W.grownBy W1 L.vqu.ownBlock) (hat : v1.ownBlock = L.vqu.ownBlock ∨ ∃ b, v1.ownBlock = some b ∧ W.heap.size ≤ b) :
    Is base (W1.setCell ⟨g, 78, none⟩ v1) g { L with vqu := v1 } { r with qu := ys } ∧ Turn W (W1.setCell ⟨g, 78, none⟩ v1) (Own base g L r) (Own base g { L with vqu := v1 } { r with qu := ys }) :=
  h.row_field flat_string hb 4 6 rfl (by decide) hr hg hat rfl rfl
theorem Is.set_rd (h : Is base W g L r) (hb : base ≤ W.heap.size) (a : Int) :
    Is base (W.setCell ⟨g, 74, none⟩ (.int .i64 a)) g L { r with rd := a } ∧ Turn W (W.setCell ⟨g, 74, none⟩ (.int .i64 a)) (Own base g L r) (Own base g L { r with rd := a }) :=
  h.field hb 2 (.int .i64 a) rfl rfl
end Go.Proofs.Ythedebalecnldaa.Rp
namespace Go.Proofs.Ythedebalecnldaa.Rp
open Go Go.RowKit Go.Proofs.YthedebalecnldaaW.PrintWords Go.Proofs.YthedebalecnldaaW.PrintLast Go.Proofs.YthedebalecnldaaW.PrintMore Go.Proofs.Ythedebalecnldaa.Mp Go.Proofs.Ythedebalecnldaa.Pt Go.Proofs.Ythedebalecnldaa.ShaP
open Go.Proofs.Ythedebalecnldaa.Dec (Sl Pp upd upd_self upd_ne e0 fresh promP accP isB sl0)
set_option linter.unusedVariables false
set_option linter.unusedSimpArgs false
variable {base g : Nat} {W W1 W2 : World} {L L' : Lay} {r r' : R}
theorem info_M : (Try.prog.info? 82).map (fun i => (i.zero, i.size, i.bytes)) = some (some (.agg #[.int .i64 0, .int .i64 0, .int .i64 0, .int .i64 0, .int .i64 0, .int .i64 0, .string ⟨#[]⟩]), 7, 64) := by kernel_rfl
theorem Is.blk_grown (h : Is base W g L r) {row : Option Nat} (hg : W.grownBy W1 row) (hne : row ≠ some g) : W1.heap[g]? = some (.cells (rcs L r) 57 (0, 0)) := (hg.block g h.glt (fun e => hne e.symm)).trans h.blk
theorem Is.ne_row (h : Is base W g L r) {α : Type} {kd : Kd α} {hf : Flat kd} {e : Nat} {v : Value} {xs : List α} (i : Nat) (hi : i ≠ 0) (hp : (parts base g L r)[i]? = some (row kd hf e base v xs)) : v.ownBlock ≠ some g := fun q => Parts.apart_ h i 0 hp rfl hi g q rfl
theorem R_sl {α : Type} {kd : Kd α} {e b : Nat} {ok : Nat → Prop} {W : World} {v : Value} {xs : List α} (h : kd.R e W b ok v xs) : ∃ A m c, v = .slice A m c := by
  obtain ⟨A, c, e⟩ := Kd.R_slice h
  exact ⟨_, _, _, e⟩
set_option maxRecDepth 100000 in
set_option maxHeartbeats 8000000 in
theorem send_c (m : Mg) (w : World) (h : Is base w g L r) (hb : base ≤ w.heap.size) (hl : r.out.length ≤ 1000000) :
    Calls Try.prog 30 #[.pointer (some ⟨g, 0, none⟩), .agg (encM m).toArray] w fun e w' => e = .returned (.tuple #[]) ∧ ∃ L', Is base w' g L' (sendR r m) ∧ Turn w w' (Own base g L r) (Own base g L' (sendR r m)) := by
  have OW := Aside0.mk (Mem.Own.nil w)
  have HD := Aside0.mk h
  have HL := Aside0.mk hl
  have HB := Aside0.mk hb
  obtain ⟨x0, x1, x2, x3, x4, x5, x6⟩ := m
  clear h hb hl
  go_enter Try.func30, Try.ntmps30
  go_wp2_with (first
    | ((with_reducible refine gate_dst (N := 3) rfl ?_); refine box_event ?hg (N := 3) ?hd (cs := #[.int .i64 x0, .int .i64 x1, .int .i64 x2, .int .i64 x3, .int .i64 x4, .int .i64 x5, .string x6]) (t := 82) ?hr ?_; (case hd => rfl); (case hg => rfl); (case hr => first | (go_simp; done) | (go_simp; rfl)); intro gX hg W_ hb hbb; have c0 := (HD.out.below (OW.out.step hbb).below).c_id; have e1 := (blk_cell hb 1).trans rfl; have y1 := blk_frozen hb 1; have n_ : Aside0 (Mem.Own w W_ [(gX, #[.int .i64 x0, .int .i64 x1, .int .i64 x2, .int .i64 x3, .int .i64 x4, .int .i64 x5, .string x6], 82)]) := ⟨OW.out.new hg hb hbb⟩; clear OW hb hbb hg; have OW := n_; clear n_))
  have OP := Aside0.mk (OW.out.put 0 rfl 1 (.int .i64 r.id) rfl)
  clear OW c0 e1 y1
  generalize W_.setCell ⟨gX, 1, none⟩ (Value.int IntKind.i64 r.id) = wb at *
  have OD := Aside0.mk OP.out.drew
  have ID := Aside0.mk (HD.out.below OD.out.below)
  have TD := Aside0.mk (Turn.below (F := Own base g L r) OD.out.below)
  have cO := ID.out.c_out
  have e0 : wb.drew.cell? ⟨gX, 0, none⟩ = some (.int .i64 x0) := (OD.out.cell 0 rfl 0).trans rfl
  have e1 : wb.drew.cell? ⟨gX, 1, none⟩ = some (.int .i64 r.id) := (OD.out.cell 0 rfl 1).trans rfl
  have e2 : wb.drew.cell? ⟨gX, 2, none⟩ = some (.int .i64 x2) := (OD.out.cell 0 rfl 2).trans rfl
  have e3 : wb.drew.cell? ⟨gX, 3, none⟩ = some (.int .i64 x3) := (OD.out.cell 0 rfl 3).trans rfl
  have e4 : wb.drew.cell? ⟨gX, 4, none⟩ = some (.int .i64 x4) := (OD.out.cell 0 rfl 4).trans rfl
  have e5 : wb.drew.cell? ⟨gX, 5, none⟩ = some (.int .i64 x5) := (OD.out.cell 0 rfl 5).trans rfl
  have e6 : wb.drew.cell? ⟨gX, 6, none⟩ = some (.string x6) := (OD.out.cell 0 rfl 6).trans rfl
  have HBD := Aside0.mk (Nat.le_trans HB.out OD.out.size)
  clear OP HD
  refine start_ (n := 11) (S := fun w' => Below (wb).drew.heap.size (wb).drew w') (ds := [7, 10]) #[false, false, false, false, false, false, false, false, false, false, false] (by kernel_rfl) rfl rfl (Below.refl _ _) (fun hHeld => ?_)
  generalize (wb).drew = W0 at *
  refine pure_ (i := 0) (N := (some 9)) (v := ?_) (a' := ?_) #[true, false, false, false, false, false, false, false, false, false, false] rfl rfl (by kernel_rfl) (fun _ _ _ h => h) (Or.inl ⟨by rfl, ?_⟩) ?_ ?_
  rotate_left
  · intro w'
    go_simp
    first | done | with_reducible rfl
  rotate_left
  · simp only [Act.put, List.setIfInBounds_toArray, List.set_cons_zero, List.set_cons_succ, i64_w, i32_w]
    rfl
  refine pure_ (i := 1) (N := (some 10)) (v := ?_) (a' := ?_) #[true, true, false, false, false, false, false, false, false, false, false] rfl rfl (by kernel_rfl) (fun _ _ _ h => h) (Or.inl ⟨by rfl, ?_⟩) ?_ ?_
  rotate_left
  · intro w'
    go_simp
    first | done | with_reducible rfl
  rotate_left
  · simp only [Act.put, List.setIfInBounds_toArray, List.set_cons_zero, List.set_cons_succ, i64_w, i32_w]
    rfl
  refine pure_ (i := 2) (N := (some 11)) (v := ?_) (a' := ?_) #[true, true, true, false, false, false, false, false, false, false, false] rfl rfl (by kernel_rfl) (fun _ _ _ h => h) (Or.inl ⟨by rfl, ?_⟩) ?_ ?_
  rotate_left
  · intro w'
    skip
    go_simp
    first | done | with_reducible rfl
  rotate_left
  · simp only [Act.put, List.setIfInBounds_toArray, List.set_cons_zero, List.set_cons_succ, i64_w, i32_w]
    rfl
  refine pure_ (i := 3) (N := (some 12)) (v := ?_) (a' := ?_) #[true, true, true, true, false, false, false, false, false, false, false] rfl rfl (by kernel_rfl) (fun _ _ _ h => h) (Or.inl ⟨by rfl, ?_⟩) ?_ ?_
  rotate_left
  · intro w'
    go_simp
    first | done | with_reducible rfl
  rotate_left
  · simp only [Act.put, List.setIfInBounds_toArray, List.set_cons_zero, List.set_cons_succ, i64_w, i32_w]
    rfl
  refine take_ (i := 4) (N := (some 13)) (v := ?_) (a' := ?_) #[true, true, true, true, true, false, false, false, false, false, false] rfl rfl (by kernel_rfl) (fun _ _ _ h => h) (Or.inl ⟨by rfl, ?_⟩) hHeld ?_ ?_
  rotate_left
  · intro w' hS
    have s0 := pw_cell_below hS cO
    go_simp
    first | done | with_reducible rfl
  rotate_left
  · simp only [Act.put, List.setIfInBounds_toArray, List.set_cons_zero, List.set_cons_succ, i64_w, i32_w]
    rfl
  refine take_ (i := 5) (N := (some 14)) (v := ?_) (a' := ?_) #[true, true, true, true, true, true, false, false, false, false, false] rfl rfl (by kernel_rfl) (fun _ _ _ h => h) (Or.inl ⟨by rfl, ?_⟩) hHeld ?_ ?_
  rotate_left
  · intro w' hS
    have s0 := pw_cell_below hS e0
    have s1 := pw_cell_below hS e1
    have s2 := pw_cell_below hS e2
    have s3 := pw_cell_below hS e3
    have s4 := pw_cell_below hS e4
    have s5 := pw_cell_below hS e5
    have s6 := pw_cell_below hS e6
    go_simp
    first | done | with_reducible rfl
  rotate_left
  · simp only [Act.put, List.setIfInBounds_toArray, List.set_cons_zero, List.set_cons_succ, i64_w, i32_w]
    rfl
  refine one_ (i := 6) (N := (some 15)) #[true, true, true, true, true, true, true, false, false, false, false] rfl rfl (by kernel_rfl) (by decide) (fun K hK => ?_)
  refine value_ (v := .slice (some ⟨W0.heap.size, 0, none⟩) 1 1) (w1 := W0.alloc (.cells (encM ⟨x0, r.id, x2, x3, x4, x5, x6⟩).toArray 82)) (by rfl) rfl (by first | (go_simp; done) | (go_simp; rfl)) ?_
  have hS2 : Below W0.heap.size W0 (W0.alloc (.cells (encM ⟨x0, r.id, x2, x3, x4, x5, x6⟩).toArray 82)) := below_alloc (Below.refl _ _) _
  refine hK.out _ _ hS2 (fun hHeld => ?_)
  clear hK K
  refine norm_ (a' := ?_) ?_ ?_
  rotate_left
  · show Act.put _ (some 15) _ = _
    simp only [Act.put, List.setIfInBounds_toArray, List.set_cons_zero, List.set_cons_succ, i64_w, i32_w]
    rfl
  refine last_ (i := 7) (N := (some 16)) #[true, true, true, true, true, true, true, true, false, false, false] rfl rfl (by kernel_rfl) (by decide) (fun K hK => ?_)
  refine Kd.R_append_step (P := Try.prog) KM (w0 := W0) (W := W0) base (by rfl) (.tmp 13) (.tmp 15) 46 82 (.agg #[.int .i64 0, .int .i64 0, .int .i64 0, .int .i64 0, .int .i64 0, .int .i64 0, .string ⟨#[]⟩]) 64 rfl Try.underlying46 info_M rfl (by decide) (by decide) L.vout r.out ⟨x0, r.id, x2, x3, x4, x5, x6⟩ (encM ⟨x0, r.id, x2, x3, x4, x5, x6⟩) (fun _ => True) (fun _ => False) rfl rfl rfl (fun _ h => h.elim) (fun _ _ => trivial) ID.out.out (Below.refl _ _) HBD.out (by have := HL.out; omega) ?_
  intro v1 w1 hr1 hb1 hg1 hat1
  have hgb := ID.out.blk_grown hg1 (ID.out.ne_row (hf := flat_flat) 6 (by decide) rfl)
  have z2 : w1.cell? ⟨g, 80, none⟩ = some L.vout := (blk_cell hgb 80).trans ((rcs_get L r 8).trans rfl)
  have y2 := blk_frozen hgb 80
  have HA := Aside0.mk (ID.out.app_out HBD.out hr1 hg1 hat1)
  obtain ⟨A1, m1, c1, ev1⟩ := R_sl hr1
  clear hr1 hb1 hg1 hat1 hgb
  subst ev1
  refine hK.out _ _ ?_
  clear hK K
  refine norm_ (a' := ?_) ?_ ?_
  rotate_left
  · show Act.put _ (some 16) _ = _
    simp only [Act.put, List.setIfInBounds_toArray, List.set_cons_zero, List.set_cons_succ, i64_w, i32_w]
    rfl
  refine pure_ (i := 8) (N := (some 17)) (v := ?_) (a' := ?_) #[true, true, true, true, true, true, true, true, true, false, false] rfl rfl (by kernel_rfl) (fun _ _ _ h => h) (Or.inl ⟨by rfl, ?_⟩) ?_ ?_
  rotate_left
  · intro w'
    skip
    go_simp
    first | done | with_reducible rfl
  rotate_left
  · simp only [Act.put, List.setIfInBounds_toArray, List.set_cons_zero, List.set_cons_succ, i64_w, i32_w]
    rfl
  refine pure_ (i := 9) (N := (some 18)) (v := ?_) (a' := ?_) #[true, true, true, true, true, true, true, true, true, true, false] rfl rfl (by kernel_rfl) (fun _ _ _ h => h) (Or.inl ⟨by rfl, ?_⟩) ?_ ?_
  rotate_left
  · intro w'
    go_simp
    first | done | with_reducible rfl
  rotate_left
  · simp only [Act.put, List.setIfInBounds_toArray, List.set_cons_zero, List.set_cons_succ, i64_w, i32_w]
    rfl
  refine last_ (i := 10) (N := none) #[true, true, true, true, true, true, true, true, true, true, true] rfl rfl (by kernel_rfl) (by decide) (fun K hK => ?_)
  refine skip_ (by rfl) rfl (by first | (go_simp; done) | (go_simp; rfl)) ?_
  refine hK.out _ _ ?_
  clear hK K
  refine done_ (by kernel_rfl) ?_
  all_goals (
    go_wp2_with fail
    go_end0
    exact ⟨rfl, _, HA.out.1, TD.out.trans HA.out.2⟩)
end Go.Proofs.Ythedebalecnldaa.Rp
namespace Go.Proofs.Ythedebalecnldaa.Rp
open Go Go.RowKit Go.Proofs.YthedebalecnldaaW.PrintWords Go.Proofs.YthedebalecnldaaW.PrintLast Go.Proofs.YthedebalecnldaaW.PrintMore Go.Proofs.Ythedebalecnldaa.Mp Go.Proofs.Ythedebalecnldaa.Pt Go.Proofs.Ythedebalecnldaa.ShaP
open Go.Proofs.Ythedebalecnldaa.Dec (Sl Pp upd upd_self upd_ne e0 fresh promP accP isB sl0)
set_option linter.unusedVariables false
set_option linter.unusedSimpArgs false
variable {base g : Nat} {W W1 W2 : World} {L L' : Lay} {r r' : R}
/-- the letters to the first k -/
noncomputable def toK (r : R) (m : Mg) (self : Bool) (k : Nat) : List Mg := ((List.range k).filter fun i => decide (i ≠ r.id) || self).map fun (i : Nat) => { m with dst := (i : Int), fr := r.id }
theorem toK_succ (r : R) (m : Mg) (self : Bool) (k : Nat) : toK r m self (k + 1) = if decide (k ≠ r.id) || self then toK r m self k ++ [{ m with dst := (k : Int), fr := r.id }] else toK r m self k := by
  unfold toK
  rw [List.range_succ, List.filter_append, List.map_append]
  by_cases h : (decide (k ≠ r.id) || self) = true
  · rw [if_pos h, show [k].filter (fun i => decide (i ≠ r.id) || self) = [k] from List.filter_cons_of_pos h]; rfl
  · rw [if_neg h, show [k].filter (fun i => decide (i ≠ r.id) || self) = [] from List.filter_cons_of_neg h]; simp
theorem toK_len (r : R) (m : Mg) (self : Bool) (k : Nat) : (toK r m self k).length ≤ k := by
  unfold toK
  rw [List.length_map]
  exact Nat.le_trans (List.length_filter_le _ _) (by rw [List.length_range]; exact Nat.le_refl _)
theorem toK_all (r : R) (m : Mg) (self : Bool) : allR r m self = { r with out := r.out ++ toK r m self r.n } := rfl
theorem wrapS (k : Nat) (h : k ≤ 1000000) : wrap64 ((k : Int) + 1) = (k : Int) + 1 := by unfold wrap64; omega
theorem meas {n i : Nat} (h : i < n) (h2 : n ≤ 1000000) : n - (intOf (Value.int .i64 (wrap64 ((i : Int) + 1)))).toNat < n - (intOf (Value.int .i64 (i : Int))).toNat := by
  rw [wrapS i (by omega)]
  simp [intOf]
  omega
set_option maxRecDepth 100000 in
set_option maxHeartbeats 8000000 in
theorem all_c (m : Mg) (self : Bool) (w : World) (h : Is base w g L r) (hb : base ≤ w.heap.size) (hn : r.n ≤ 1000) (hl : r.out.length ≤ 900000) :
    Calls Try.prog 28 #[.pointer (some ⟨g, 0, none⟩), .agg (encM m).toArray, .bool self] w fun e w' => e = .returned (.tuple #[]) ∧ ∃ L', Is base w' g L' (allR r m self) ∧ Turn w w' (Own base g L r) (Own base g L' (allR r m self)) := by
  have OW := Aside0.mk (Mem.Own.nil w)
  have HD := Aside0.mk h
  have HL := Aside0.mk hl
  have HB := Aside0.mk hb
  have HN := Aside0.mk hn
  have HLT := Aside0.mk h.lt
  obtain ⟨x0, x1, x2, x3, x4, x5, x6⟩ := m
  obtain ⟨n, hnn⟩ : ∃ n, r.n = n := ⟨_, rfl⟩
  obtain ⟨d, hd⟩ : ∃ d, r.id = d := ⟨_, rfl⟩
  have HNN := Aside0.mk hnn
  have HID := Aside0.mk hd
  rw [hnn] at HN
  clear h hb hl hn hnn hd
  go_enter Try.func28, Try.ntmps28
  go_wp2_with (first
    | ((with_reducible refine gate_dst (N := 4) rfl ?_); refine box_event ?hg (N := 4) ?hd (cs := #[.int .i64 x0, .int .i64 x1, .int .i64 x2, .int .i64 x3, .int .i64 x4, .int .i64 x5, .string x6]) (t := 82) ?hr ?_; (case hd => rfl); (case hg => rfl); (case hr => first | (go_simp; done) | (go_simp; rfl)); intro gX hg W_ hb hbb; have c0 := (HD.out.below (OW.out.step hbb).below).c_n; rw [HNN.out] at c0; have n_ : Aside0 (Mem.Own w W_ [(gX, #[.int .i64 x0, .int .i64 x1, .int .i64 x2, .int .i64 x3, .int .i64 x4, .int .i64 x5, .string x6], 82)]) := ⟨OW.out.new hg hb hbb⟩; clear OW hb hbb hg; have OW := n_; clear n_))
  have HNO := Aside0.mk (show ¬ Own base g L r gX from fun q => Nat.lt_irrefl _ (Nat.lt_of_lt_of_le (HLT.out gX q) (OW.out.new_le 0 rfl)))
  have HX := Aside0.mk (OW.out.blk 0 rfl)
  have HGX := Aside0.mk (OW.out.new_le 0 rfl)
  have HI := Aside0.mk (HD.out.below OW.out.below)
  have HT := Aside0.mk (Turn.below (F := Own base g L r) OW.out.below)
  clear OW HD HLT c0
  go_loopw [11] (fun v11 wr => ∃ (i : Nat) (t : Int) (L' : Lay) (r' : R), v11 = .int .i64 i ∧ i ≤ n ∧ Aside0 (r' = { r with out := r.out ++ toK r ⟨x0, x1, x2, x3, x4, x5, x6⟩ self i }) ∧ Aside0 (Is base wr g L' r') ∧ Aside0 (Turn w wr (Own base g L r) (Own base g L' r')) ∧ Aside0 (wr.heap[gX]? = some (.cells #[.int .i64 x0, .int .i64 x1, .int .i64 t, .int .i64 x3, .int .i64 x4, .int .i64 x5, .string x6] 82 (0, 0))) ∧ Aside0 (¬ Own base g L' r' gX)) (fun v11 _ => n - (intOf v11).toNat)
  case atStart => exact ⟨0, x2, L, r, rfl, Nat.zero_le _, ⟨by show r = { r with out := r.out ++ [] }; rw [List.append_nil]⟩, HI, HT, HX, HNO⟩
  case round =>
    clear HI HT HX HNO
    obtain ⟨i, t, L1, r1, rfl, hi, HR, HI, HT, HX, HNO⟩ := hrel
    by_cases hin : i < n
    · have hini : (i : Int) < (n : Int) := by omega
      have HIN := Aside0.mk hin
      have HMS := Aside0.mk (meas hin (by have := HN.out; omega))
      have hw := wrapS i (by have := HN.out; omega)
      have hid1 : r1.id = d := by rw [HR.out]; exact HID.out
      have c1 := HI.out.c_id
      rw [hid1] at c1
      have hq1 := (blk_cell HX.out 2).trans (show _ = some (Value.int .i64 t) from rfl)
      have hf1 := blk_frozen HX.out 2
      have hX2 := blk_put HX.out 2 (.int .i64 (i : Int)) (cs' := #[.int .i64 x0, .int .i64 x1, .int .i64 i, .int .i64 x3, .int .i64 x4, .int .i64 x5, .string x6]) rfl
      have HX2 := Aside0.mk hX2
      have HI2 : Aside0 (Is base (wr.setCell ⟨gX, 2, none⟩ (.int .i64 (i : Int))) g L1 r1) := ⟨Parts.set_other HI.out HNO.out⟩
      have HT2 : Aside0 (Turn w (wr.setCell ⟨gX, 2, none⟩ (.int .i64 (i : Int))) (Own base g L r) (Own base g L1 r1)) := ⟨HT.out.set_new HGX.out⟩
      have q0 := (blk_cell hX2 0).trans (show _ = some (Value.int .i64 x0) from rfl)
      have q1 := (blk_cell hX2 1).trans (show _ = some (Value.int .i64 x1) from rfl)
      have q2 := (blk_cell hX2 2).trans (show _ = some (Value.int .i64 (i : Int)) from rfl)
      have q3 := (blk_cell hX2 3).trans (show _ = some (Value.int .i64 x3) from rfl)
      have q4 := (blk_cell hX2 4).trans (show _ = some (Value.int .i64 x4) from rfl)
      have q5 := (blk_cell hX2 5).trans (show _ = some (Value.int .i64 x5) from rfl)
      have q6 := (blk_cell hX2 6).trans (show _ = some (Value.string x6) from rfl)
      have hout : r1.out.length ≤ 1000000 := by
        rw [HR.out]
        show (r.out ++ toK r _ self i).length ≤ _
        rw [List.length_append]
        have := toK_len r ⟨x0, x1, x2, x3, x4, x5, x6⟩ self i
        have := HL.out
        have := HN.out
        omega
      have HOUT := Aside0.mk hout
      clear hX2 hout
      have key : ∀ b : Bool, (decide (i ≠ r.id) || self) = b → Aside0 (toK r ⟨x0, x1, x2, x3, x4, x5, x6⟩ self (i + 1) = if b then toK r ⟨x0, x1, x2, x3, x4, x5, x6⟩ self i ++ [⟨x0, (r.id : Int), (i : Int), x3, x4, x5, x6⟩] else toK r ⟨x0, x1, x2, x3, x4, x5, x6⟩ self i) := fun b e => ⟨by rw [toK_succ, e]⟩
      rw [HID.out] at key
      by_cases e : i = d
      · have hne : ((i : Int) != (d : Int)) = false := by rw [e]; simp
        cases self with
        | true =>
          have HK := key true (by simp)
          clear key e hin
          go_wp2_with fail
          refine (send_c ⟨x0, x1, (i : Int), x3, x4, x5, x6⟩ _ HI2.out (Nat.le_trans HB.out HT2.out.size) HOUT.out).mono ?_
          rintro e wz ⟨rfl, L2, hI3, hT3⟩
          have HX3 := Aside0.mk ((hT3.keep gX (blk_lt HX2.out) (fun q => HNO.out q)).trans HX2.out)
          have HNO3 := Aside0.mk (hT3.not_foot HNO.out (blk_lt HX2.out))
          have HI3 := Aside0.mk hI3
          have HT3 := Aside0.mk (HT2.out.trans hT3)
          have HR3 : Aside0 (sendR r1 ⟨x0, x1, (i : Int), x3, x4, x5, x6⟩ = { r with out := r.out ++ toK r ⟨x0, x1, x2, x3, x4, x5, x6⟩ true (i + 1) }) := ⟨by
            rw [HK.out]
            unfold sendR
            rw [HR.out]
            show ({ r with out := (r.out ++ _) ++ [_] } : R) = _
            rw [List.append_assoc, if_pos trivial, ← HID.out]⟩
          clear hI3 hT3 q0 q1 q2 q3 q4 q5 q6 hq1 hf1
          go_wp2_with fail
          go_roundw
          case rel => exact ⟨i + 1, (i : Int), L2, _, by go_num, HIN.out, HR3, HI3, HT3, HX3, HNO3⟩
          case measure => exact HMS.out
        | false =>
          have HK := key false (by rw [decide_eq_false (by simpa using e)]; rfl)
          clear key e hin
          go_wp2_with fail
          go_roundw
          case rel => exact ⟨i + 1, t, L1, r1, by go_num, HIN.out, ⟨by rw [HK.out]; exact HR.out⟩, HI, HT, HX, HNO⟩
          case measure => exact HMS.out
      · have hne : ((i : Int) != (d : Int)) = true := by rw [bne_iff_ne]; omega
        have HK := key true (by rw [decide_eq_true e]; rfl)
        clear key e hin
        go_wp2_with fail
        refine (send_c ⟨x0, x1, (i : Int), x3, x4, x5, x6⟩ _ HI2.out (Nat.le_trans HB.out HT2.out.size) HOUT.out).mono ?_
        rintro e wz ⟨rfl, L2, hI3, hT3⟩
        have HX3 := Aside0.mk ((hT3.keep gX (blk_lt HX2.out) (fun q => HNO.out q)).trans HX2.out)
        have HNO3 := Aside0.mk (hT3.not_foot HNO.out (blk_lt HX2.out))
        have HI3 := Aside0.mk hI3
        have HT3 := Aside0.mk (HT2.out.trans hT3)
        have HR3 : Aside0 (sendR r1 ⟨x0, x1, (i : Int), x3, x4, x5, x6⟩ = { r with out := r.out ++ toK r ⟨x0, x1, x2, x3, x4, x5, x6⟩ self (i + 1) }) := ⟨by
          rw [HK.out]
          unfold sendR
          rw [HR.out]
          show ({ r with out := (r.out ++ _) ++ [_] } : R) = _
          rw [List.append_assoc, if_pos trivial, ← HID.out]⟩
        clear hI3 hT3 q0 q1 q2 q3 q4 q5 q6 hq1 hf1
        go_wp2_with fail
        go_roundw
        case rel => exact ⟨i + 1, (i : Int), L2, _, by go_num, HIN.out, HR3, HI3, HT3, HX3, HNO3⟩
        case measure => exact HMS.out
    · have hini : ¬ (i : Int) < (n : Int) := by omega
      obtain rfl : i = n := by omega
      clear hin
      go_wp2_with fail
      go_end0
      have hall : r1 = allR r ⟨x0, x1, x2, x3, x4, x5, x6⟩ self := by rw [HR.out, toK_all, HNN.out]
      rw [← hall]
      exact ⟨rfl, L1, HI.out, HT.out⟩
end Go.Proofs.Ythedebalecnldaa.Rp
namespace Go.Proofs.Ythedebalecnldaa.Rp
open Go Go.RowKit Go.Proofs.YthedebalecnldaaW.PrintWords Go.Proofs.YthedebalecnldaaW.PrintLast Go.Proofs.YthedebalecnldaaW.PrintMore Go.Proofs.Ythedebalecnldaa.Mp Go.Proofs.Ythedebalecnldaa.Pt Go.Proofs.Ythedebalecnldaa.ShaP
open Go.Proofs.Ythedebalecnldaa.Dec (Sl Pp upd upd_self upd_ne e0 fresh promP accP isB sl0)
set_option linter.unusedVariables false
set_option linter.unusedSimpArgs false
variable {base g : Nat} {W W1 W2 : World} {L L' : Lay} {r r' : R}
theorem Is.drewN (h : Is base W g L r) (n : Nat) : Is base (W.drewN n) g L r := Parts.keep h (fun k _ _ => by rw [show (W.drewN n).heap = W.heap from by induction n with
  | zero => rfl
  | succ n ih => rw [← World.drew_drewN]; exact ih])
theorem Is.qu_sl (h : Is base W g L r) : ∃ A c, L.vqu = .slice A r.qu.length c ∧ r.qu.length ≤ c ∧ Kd.C Kd.string W A r.qu.length r.qu := by
  obtain ⟨A, c, e⟩ := Kd.R_slice h.qu
  have h1 := h.qu
  rw [e] at h1
  exact ⟨A, c, e, (Kd.R_reads' h1).2.1, (Kd.R_reads' h1).2.2⟩
theorem Is.log_sl (h : Is base W g L r) : ∃ A c, L.vlog = .slice A r.log.length c ∧ r.log.length ≤ c ∧ Kd.C Kd.string W A r.log.length r.log := by
  obtain ⟨A, c, e⟩ := Kd.R_slice h.log
  have h1 := h.log
  rw [e] at h1
  exact ⟨A, c, e, (Kd.R_reads' h1).2.1, (Kd.R_reads' h1).2.2⟩
theorem wrapB (rd : Int) (d : Nat) (h0 : 0 ≤ rd) (h1 : rd ≤ 268435456) (h2 : d ≤ 1000) : IntKind.i64.wrap (rd + 1) = rd + 1 ∧ IntKind.i64.wrap (8 * (rd + 1)) = 8 * (rd + 1) ∧ IntKind.i64.wrap (8 * (rd + 1) + (d : Int)) = 8 * (rd + 1) + d := by
  rw [IntKind.wrap_i64, IntKind.wrap_i64, IntKind.wrap_i64]; omega
theorem turn_drewN (w : World) (m : Nat) (F : Nat → Prop) : Turn w (w.drewN m) F F := by
  induction m with
  | zero => exact Turn.refl _ _
  | succ m ih => rw [← World.drew_drewN]; exact ih.drew
theorem beginR_busy (h : r.p.isSome = true ∨ r.qu = [] ∨ 1000 ≤ r.log.length ∨ 2147483639 < ballotR r) : beginR r = r := by
  unfold beginR
  by_cases h1 : r.p.isSome = true
  · rw [if_pos h1]
  · rw [if_neg h1]
    cases hq : r.qu with
    | nil => rfl
    | cons v l =>
      simp only
      rw [if_pos]
      rcases h with h | h | h
      · exact absurd h h1
      · rw [hq] at h; cases h
      · exact h
set_option maxRecDepth 100000 in
set_option maxHeartbeats 8000000 in
theorem begin_idle (w : World) (h : Is base w g L r) (h0 : 0 ≤ r.rd) (h1 : r.rd ≤ 268435456) (h2 : r.id ≤ 1000) (hc : r.p.isSome = true ∨ r.qu = [] ∨ 1000 ≤ r.log.length ∨ 2147483639 < ballotR r) :
    Calls Try.prog 24 #[.pointer (some ⟨g, 0, none⟩)] w fun e w' => e = .returned (.tuple #[]) ∧ ∃ m, w' = w.drewN m := by
  obtain ⟨s1, s2, s3⟩ := wrapB r.rd r.id h0 h1 h2
  have k72 := h.c_id
  have k74 := h.c_rd
  have k75 := h.c_log
  have k78 := h.c_qu
  have k79 := h.c_p
  obtain ⟨Aq, cq, eq, _⟩ := h.qu_sl
  obtain ⟨Al, cl, el, _⟩ := h.log_sl
  rw [eq] at k78
  rw [el] at k75
  have hm : ((r.qu.length : Int) == 0) = decide (r.qu = []) := by
    cases hq : r.qu with
    | nil => simp
    | cons v l => rw [beq_eq_false_iff_ne.2 (by simp; omega)]; simp
  unfold ballotR at hc
  generalize r.qu.length = m at *
  generalize r.log.length = q at *
  generalize r.rd = rd at *
  generalize r.id = d at *
  cases hp : r.p with
  | some p =>
    rw [hp] at k79
    replace k79 : w.cell? ⟨g, 79, none⟩ = some (.pointer (some ⟨L.gp, 0, none⟩)) := k79
    clear h hc eq el
    go_enter Try.func24, Try.ntmps24
    go_wp2_with fail
    go_quiet (fail)
    go_wp2
    refine bodyPost_ret (results_none rfl _ _ _) rfl ⟨rfl, _, rfl⟩
  | none =>
    rw [hp] at k79 hc
    replace k79 : w.cell? ⟨g, 79, none⟩ = some (.pointer none) := k79
    by_cases hq : r.qu = []
    · rw [decide_eq_true hq] at hm
      clear h hc eq el
      go_enter Try.func24, Try.ntmps24
      go_wp2_with fail
      go_quiet (fail)
      go_wp2
      refine bodyPost_ret (results_none rfl _ _ _) rfl ⟨rfl, _, rfl⟩
    · rw [decide_eq_false hq] at hm
      by_cases hl : 1000 ≤ q
      · have hli : (1000 : Int) ≤ (q : Int) := by omega
        clear h hc eq el
        go_enter Try.func24, Try.ntmps24
        go_wp2_with fail
        go_quiet (fail)
        go_wp2
        refine bodyPost_ret (results_none rfl _ _ _) rfl ⟨rfl, _, rfl⟩
      · have hli : ¬ (1000 : Int) ≤ (q : Int) := by omega
        have hb : 2147483639 < 8 * (rd + 1) + (d : Int) := by
          rcases hc with h | h | h | h
          · cases h
          · exact absurd h hq
          · exact absurd h hl
          · exact h
        clear h hc eq el
        go_enter Try.func24, Try.ntmps24
        go_wp2_with fail
        go_quiet (fail)
        go_wp2
        refine bodyPost_ret (results_none rfl _ _ _) rfl ⟨rfl, _, rfl⟩
end Go.Proofs.Ythedebalecnldaa.Rp
namespace Go.Proofs.Ythedebalecnldaa.Rp
open Go Go.RowKit Go.Proofs.YthedebalecnldaaW.PrintWords Go.Proofs.YthedebalecnldaaW.PrintLast Go.Proofs.YthedebalecnldaaW.PrintMore Go.Proofs.Ythedebalecnldaa.Mp Go.Proofs.Ythedebalecnldaa.Pt Go.Proofs.Ythedebalecnldaa.ShaP
open Go.Proofs.Ythedebalecnldaa.Dec (Sl Pp upd upd_self upd_ne e0 fresh promP accP isB sl0)
set_option linter.unusedVariables false
set_option linter.unusedSimpArgs false
variable {base g : Nat} {W W1 W2 : World} {L L' : Lay} {r r' : R}
set_option maxHeartbeats 1000000 in
theorem pnew_c (n : Nat) (b : Int) (v : ByteArray) (h1 : 1 ≤ n) (h5 : n ≤ 63) (w : World) : Calls Try.prog 27 #[.int .i64 n, .int .i64 b, .string v] w fun e w' => e = .returned (.pointer (some ⟨w.heap.size, 0, none⟩)) ∧ w' = w.alloc (.cells (ppc n (fresh b v)) 85) := by
  have hu197 := Try.underlying85
  have hm : max (n : Int) 1 = n := by omega
  have hm2 : min (n : Int) 63 = n := by omega
  go_enter Try.func27, Try.ntmps27
  go_wp2
  go_ret
  exact ⟨rfl, rfl⟩
theorem pnew_q (n : Nat) (b : Int) (v : ByteArray) (h1 : 1 ≤ n) (h5 : n ≤ 63) (w : World) : Calls Try.prog 27 #[.int .i64 n, .int .i64 b, .string v] w fun e w' => ∃ q, e = .returned (.pointer (some ⟨q, 0, none⟩)) ∧ w.heap.size ≤ q ∧ w'.heap[q]? = some (.cells (ppc n (fresh b v)) 85 (0, 0)) ∧ Below w.heap.size w w' :=
  (pnew_c n b v h1 h5 w).mono fun e w' ⟨h, hw⟩ => ⟨_, h, Nat.le_refl _, by rw [hw]; exact blk_new w _, by rw [hw]; exact below_alloc (Below.refl _ _) _⟩
set_option maxHeartbeats 1000000 in
theorem ballot_c (q : Nat) (n : Nat) (p : Pp) (w : World) (hg : w.heap[q]? = some (.cells (ppc n p) 85 (0, 0))) : Calls Try.prog 29 #[.pointer (some ⟨q, 0, none⟩)] w fun e w' => e = .returned (.int .i64 p.b) ∧ w' = w := by
  have hc : w.cell? ⟨q, 1, none⟩ = some (.int .i64 p.b) := (blk_cell hg 1).trans rfl
  clear hg
  go_enter Try.func29, Try.ntmps29
  go_wp2
  go_ret
  exact ⟨rfl, rfl⟩
theorem drewN_size (w : World) (n : Nat) : (w.drewN n).heap.size = w.heap.size := by
  induction n with
  | zero => rfl
  | succ n ih => rw [← World.drew_drewN]; exact ih
theorem cell_drewN (w : World) (n : Nat) (p : Addr) : (w.drewN n).cell? p = w.cell? p := by
  induction n with
  | zero => rfl
  | succ n ih => rw [← World.drew_drewN]; exact ih
theorem cell_set_other {w : World} {g i : Nat} (v : Value) (p : Addr) (h0 : True) (h : p.block ≠ g) : (w.setCell ⟨g, i, none⟩ v).cell? p = w.cell? p := by
  unfold World.cell?
  rw [Below.heap_setCell w ⟨g, i, none⟩ v p.block h]
theorem row_own {α : Type} {kd : Kd α} {e b : Nat} {ok : Nat → Prop} {W : World} {v : Value} {xs : List α} (h : kd.R e W b ok v xs) (h0 : 0 < xs.length) : ∃ g c, v = .slice (some ⟨g, 0, none⟩) xs.length c := by
  obtain ⟨inner, ho⟩ := Kd.R_own h
  rcases ho.2 with ⟨_, e⟩ | ⟨g, c, cur, rfl, _⟩
  · omega
  · exact ⟨g, c, rfl⟩
/-- a proposal is made, and its field told -/
theorem Is.new_p (h : Is base W g L r) (hb : base ≤ W.heap.size) (q : Nat) (p : Pp) (hq : W1.heap[q]? = some (.cells (ppc r.n p) 85 (0, 0))) (hnew : W.heap.size ≤ q) (hB : Below W.heap.size W W1) :
    Is base (W1.setCell ⟨g, 79, none⟩ (.pointer (some ⟨q, 0, none⟩))) g { L with gp := q } { r with p := some p } ∧ Turn W (W1.setCell ⟨g, 79, none⟩ (.pointer (some ⟨q, 0, none⟩))) (Own base g L r) (Own base g { L with gp := q } { r with p := some p }) := by
  obtain ⟨h1, t1⟩ := Parts.put (W1 := W1) h hb 5 rfl (Pt.blk q 85 (ppc r.n p)) hq ⟨hB.os, hB.tape, hB.output, hB.size, fun k hk _ => hB.block k hk, fun k hk => .inr (by rw [show k = q from hk]; exact hnew)⟩
  obtain ⟨h2, t2⟩ := Parts.set h1 (Nat.le_trans hb t1.size) 0 rfl 79 (.pointer (some ⟨q, 0, none⟩)) (rcs { L with gp := q } { r with p := some p }) (rcs_set L { L with gp := q } r { r with p := some p } 7 _ rfl)
  exact ⟨h2, t1.trans t2⟩
theorem beginR_go {v : ByteArray} {l : List ByteArray} (hp : r.p = none) (hq : r.qu = v :: l) (hl : r.log.length < 1000) (hb : ballotR r ≤ 2147483639) : beginR r = allR { r with rd := r.rd + 1, p := some (fresh (ballotR r) v) } ⟨1, 0, 0, r.log.length, ballotR r, 0, e0⟩ true := by
  unfold beginR
  rw [hp, if_neg (by simp), hq]
  simp only
  rw [if_neg (by omega)]
set_option maxRecDepth 100000 in
set_option maxHeartbeats 8000000 in
theorem begin_go (v : ByteArray) (l : List ByteArray) (w : World) (h : Is base w g L r) (hbs : base ≤ w.heap.size) (h0 : 0 ≤ r.rd) (h1 : r.rd ≤ 268435456) (h2 : r.id ≤ 1000) (hn : 1 ≤ r.n) (hn5 : r.n ≤ 63) (hout : r.out.length ≤ 900000)
    (hp : r.p = none) (hqu : r.qu = v :: l) (hl : r.log.length < 1000) (hbal : ballotR r ≤ 2147483639) :
    Calls Try.prog 24 #[.pointer (some ⟨g, 0, none⟩)] w fun e w' => e = .returned (.tuple #[]) ∧ ∃ L', Is base w' g L' (beginR r) ∧ Turn w w' (Own base g L r) (Own base g L' (beginR r)) := by
  have HBR := Aside0.mk (beginR_go hp hqu hl hbal)
  have HALL := Aside0.mk (fun (W : World) (L9 : Lay) (h9 : Is base W g L9 { r with rd := r.rd + 1, p := some (fresh (ballotR r) v) }) (hb9 : base ≤ W.heap.size) => all_c ⟨1, 0, 0, r.log.length, ballotR r, 0, e0⟩ true W h9 hb9 (show r.n ≤ 1000 by omega) hout)
  rw [← HBR.out] at HALL
  generalize beginR r = r9 at *
  obtain ⟨s1, s2, s3⟩ := wrapB r.rd r.id h0 h1 h2
  have k72 := h.c_id
  have k74 := h.c_rd
  have k75 := h.c_log
  have k78 := h.c_qu
  have k79 := h.c_p
  have f74 := h.frz 74
  obtain ⟨Aq, cq, eq, hcq, hCq⟩ := h.qu_sl
  obtain ⟨Al, cl, el, _⟩ := h.log_sl
  rw [eq] at k78
  rw [el] at k75
  have hm : ((r.qu.length : Int) == 0) = false := by rw [hqu, beq_eq_false_iff_ne]; simp; omega
  have hqi : ¬ (1000 : Int) ≤ (r.log.length : Int) := by omega
  rw [hp] at k79
  replace k79 : w.cell? ⟨g, 79, none⟩ = some (.pointer none) := k79
  have hbi : ¬ (2147483639 < 8 * (r.rd + 1) + (r.id : Int)) := by unfold ballotR at hbal; omega
  have hws : wrap64 (r.rd + 1) = r.rd + 1 := by unfold wrap64; omega
  have HD := Aside0.mk h
  have HBS := Aside0.mk hbs
  have hq1 : 0 < r.qu.length := by rw [hqu]; simp
  obtain ⟨Ad, hAd, hc0⟩ := Kd.at_string hCq 0 (Int.le_refl 0) (by omega)
  have HC0 : Aside0 (w.cell? Ad = some (.string v)) := ⟨by
    rw [show (0 : Int).toNat = 0 from rfl, show Ad.add 0 = Ad from rfl] at hc0
    rw [hc0, hqu]; rfl⟩
  have HBAL := Aside0.mk (show ballotR r = 8 * (r.rd + 1) + (r.id : Int) from rfl)
  have HEQ := Aside0.mk eq
  have HEL := Aside0.mk el
  have HQ1 := Aside0.mk hq1
  have HPN := Aside0.mk (fun W => pnew_q r.n (ballotR r) v hn hn5 W)
  subst hAd
  clear h h0 h1 h2 hbs hCq hc0 eq el hcq hout hp hqu hl hbal hn hn5 hq1
  go_enter Try.func24, Try.ntmps24
  go_wp2_with fail
  go_quiet (fail)
  go_wp2
  have hset := (HD.out.drewN nq).set_rd (by rw [drewN_size]; exact HBS.out) (r.rd + 1)
  have T1 := Aside0.mk ((turn_drewN w nq (Own base g L r)).trans hset.2)
  have I1 := Aside0.mk hset.1
  have C1 := Aside0.mk (show ((w.drewN nq).setCell ⟨g, 74, none⟩ (.int .i64 (r.rd + 1))).cell? Ad = some (.string v) from by
    have hrow := Parts.ok HD.out 4 rfl
    have hne : Ad.block ≠ g := fun e => by
      have h4 : L.vqu.ownBlock ≠ some g := HD.out.ne_row (hf := flat_string) 4 (by decide) rfl
      obtain ⟨gq, c9, e9⟩ := row_own HD.out.qu HQ1.out
      rw [HEQ.out] at e9
      injection e9 with e9 _ _
      have e9 := Option.some.inj e9
      rw [HEQ.out] at h4
      apply h4
      rw [e9] at e ⊢
      have e : gq = g := e
      rw [e]
      simp [Value.ownBlock]
    rw [cell_set_other _ _ trivial hne, cell_drewN]
    exact HC0.out)
  clear HD HC0 k72 k74 k75 k78 k79 f74 hset
  generalize (w.drewN nq).setCell ⟨g, 74, none⟩ (Value.int IntKind.i64 (r.rd + 1)) = wb at *
  have ID := Aside0.mk I1.out.drew
  have TD := Aside0.mk T1.out.drew
  have HBD := Aside0.mk (Nat.le_trans HBS.out TD.out.size)
  have c72 : wb.drew.cell? ⟨g, 72, none⟩ = some (.int .i64 r.id) := ID.out.c_id
  have c73 : wb.drew.cell? ⟨g, 73, none⟩ = some (.int .i64 r.n) := ID.out.c_n
  have c74 : wb.drew.cell? ⟨g, 74, none⟩ = some (.int .i64 (r.rd + 1)) := ID.out.c_rd
  have c78 : wb.drew.cell? ⟨g, 78, none⟩ = some (.slice (some Ad) r.qu.length cq) := by rw [← HEQ.out]; exact ID.out.c_qu
  have cv : wb.drew.cell? Ad = some (.string v) := C1.out
  have hq0 : 0 < r.qu.length := HQ1.out
  clear C1 I1 T1
  refine start_ (n := 25) (S := fun w' => Below (wb).drew.heap.size (wb).drew w') (ds := [24]) #[false, false, false, false, false, false, false, false, false, false, false, false, false, false, false, false, false, false, false, false, false, false, false, false, false] (by kernel_rfl) rfl rfl (Below.refl _ _) (fun hHeld => ?_)
  generalize (wb).drew = W0 at *
  refine pure_ (i := 0) (N := (some 44)) (v := ?_) (a' := ?_) #[true, false, false, false, false, false, false, false, false, false, false, false, false, false, false, false, false, false, false, false, false, false, false, false, false] rfl rfl (by kernel_rfl) (fun _ _ _ h => h) (Or.inl ⟨by rfl, ?_⟩) ?_ ?_
  rotate_left
  · intro w'
    go_simp
    first | done | with_reducible rfl
  rotate_left
  · simp only [Act.put, List.setIfInBounds_toArray, List.set_cons_zero, List.set_cons_succ, i64_w, i32_w]
    rfl
  refine pure_ (i := 1) (N := (some 45)) (v := ?_) (a' := ?_) #[true, true, false, false, false, false, false, false, false, false, false, false, false, false, false, false, false, false, false, false, false, false, false, false, false] rfl rfl (by kernel_rfl) (fun _ _ _ h => h) (Or.inl ⟨by rfl, ?_⟩) ?_ ?_
  rotate_left
  · intro w'
    go_simp
    first | done | with_reducible rfl
  rotate_left
  · simp only [Act.put, List.setIfInBounds_toArray, List.set_cons_zero, List.set_cons_succ, i64_w, i32_w]
    rfl
  refine pure_ (i := 2) (N := (some 46)) (v := ?_) (a' := ?_) #[true, true, true, false, false, false, false, false, false, false, false, false, false, false, false, false, false, false, false, false, false, false, false, false, false] rfl rfl (by kernel_rfl) (fun _ _ _ h => h) (Or.inl ⟨by rfl, ?_⟩) ?_ ?_
  rotate_left
  · intro w'
    skip
    go_simp
    first | done | with_reducible rfl
  rotate_left
  · simp only [Act.put, List.setIfInBounds_toArray, List.set_cons_zero, List.set_cons_succ, i64_w, i32_w]
    rfl
  refine pure_ (i := 3) (N := (some 47)) (v := ?_) (a' := ?_) #[true, true, true, true, false, false, false, false, false, false, false, false, false, false, false, false, false, false, false, false, false, false, false, false, false] rfl rfl (by kernel_rfl) (fun _ _ _ h => h) (Or.inl ⟨by rfl, ?_⟩) ?_ ?_
  rotate_left
  · intro w'
    go_simp
    first | done | with_reducible rfl
  rotate_left
  · simp only [Act.put, List.setIfInBounds_toArray, List.set_cons_zero, List.set_cons_succ, i64_w, i32_w]
    rfl
  refine take_ (i := 4) (N := (some 48)) (v := ?_) (a' := ?_) #[true, true, true, true, true, false, false, false, false, false, false, false, false, false, false, false, false, false, false, false, false, false, false, false, false] rfl rfl (by kernel_rfl) (fun _ _ _ h => h) (Or.inl ⟨by rfl, ?_⟩) hHeld ?_ ?_
  rotate_left
  · intro w' hS
    have s0 := pw_cell_below hS c73
    go_simp
    first | done | with_reducible rfl
  rotate_left
  · simp only [Act.put, List.setIfInBounds_toArray, List.set_cons_zero, List.set_cons_succ, i64_w, i32_w]
    rfl
  refine pure_ (i := 5) (N := (some 49)) (v := ?_) (a' := ?_) #[true, true, true, true, true, true, false, false, false, false, false, false, false, false, false, false, false, false, false, false, false, false, false, false, false] rfl rfl (by kernel_rfl) (fun _ _ _ h => h) (Or.inl ⟨by rfl, ?_⟩) ?_ ?_
  rotate_left
  · intro w'
    go_simp
    first | done | with_reducible rfl
  rotate_left
  · simp only [Act.put, List.setIfInBounds_toArray, List.set_cons_zero, List.set_cons_succ, i64_w, i32_w]
    rfl
  refine pure_ (i := 6) (N := (some 50)) (v := ?_) (a' := ?_) #[true, true, true, true, true, true, true, false, false, false, false, false, false, false, false, false, false, false, false, false, false, false, false, false, false] rfl rfl (by kernel_rfl) (fun _ _ _ h => h) (Or.inl ⟨by rfl, ?_⟩) ?_ ?_
  rotate_left
  · intro w'
    skip
    go_simp
    first | done | with_reducible rfl
  rotate_left
  · simp only [Act.put, List.setIfInBounds_toArray, List.set_cons_zero, List.set_cons_succ, i64_w, i32_w]
    rfl
  refine pure_ (i := 7) (N := (some 51)) (v := ?_) (a' := ?_) #[true, true, true, true, true, true, true, true, false, false, false, false, false, false, false, false, false, false, false, false, false, false, false, false, false] rfl rfl (by kernel_rfl) (fun _ _ _ h => h) (Or.inl ⟨by rfl, ?_⟩) ?_ ?_
  rotate_left
  · intro w'
    go_simp
    first | done | with_reducible rfl
  rotate_left
  · simp only [Act.put, List.setIfInBounds_toArray, List.set_cons_zero, List.set_cons_succ, i64_w, i32_w]
    rfl
  refine take_ (i := 8) (N := (some 52)) (v := ?_) (a' := ?_) #[true, true, true, true, true, true, true, true, true, false, false, false, false, false, false, false, false, false, false, false, false, false, false, false, false] rfl rfl (by kernel_rfl) (fun _ _ _ h => h) (Or.inl ⟨by rfl, ?_⟩) hHeld ?_ ?_
  rotate_left
  · intro w' hS
    have s0 := pw_cell_below hS c74
    go_simp
    first | done | with_reducible rfl
  rotate_left
  · simp only [Act.put, List.setIfInBounds_toArray, List.set_cons_zero, List.set_cons_succ, i64_w, i32_w]
    rfl
  refine pure_ (i := 9) (N := (some 53)) (v := ?_) (a' := ?_) #[true, true, true, true, true, true, true, true, true, true, false, false, false, false, false, false, false, false, false, false, false, false, false, false, false] rfl rfl (by kernel_rfl) (fun _ _ _ h => h) (Or.inl ⟨by rfl, ?_⟩) ?_ ?_
  rotate_left
  · intro w'
    go_simp
    first | done | with_reducible rfl
  rotate_left
  · simp only [Act.put, List.setIfInBounds_toArray, List.set_cons_zero, List.set_cons_succ, i64_w, i32_w]
    rfl
  refine pure_ (i := 10) (N := (some 54)) (v := ?_) (a' := ?_) #[true, true, true, true, true, true, true, true, true, true, true, false, false, false, false, false, false, false, false, false, false, false, false, false, false] rfl rfl (by kernel_rfl) (fun _ _ _ h => h) (Or.inl ⟨by rfl, ?_⟩) ?_ ?_
  rotate_left
  · intro w'
    go_simp
    first | done | with_reducible rfl
  rotate_left
  · simp only [Act.put, List.setIfInBounds_toArray, List.set_cons_zero, List.set_cons_succ, i64_w, i32_w]
    rfl
  refine pure_ (i := 11) (N := (some 55)) (v := ?_) (a' := ?_) #[true, true, true, true, true, true, true, true, true, true, true, true, false, false, false, false, false, false, false, false, false, false, false, false, false] rfl rfl (by kernel_rfl) (fun _ _ _ h => h) (Or.inl ⟨by rfl, ?_⟩) ?_ ?_
  rotate_left
  · intro w'
    skip
    go_simp
    first | done | with_reducible rfl
  rotate_left
  · simp only [Act.put, List.setIfInBounds_toArray, List.set_cons_zero, List.set_cons_succ, i64_w, i32_w]
    rfl
  refine pure_ (i := 12) (N := (some 56)) (v := ?_) (a' := ?_) #[true, true, true, true, true, true, true, true, true, true, true, true, true, false, false, false, false, false, false, false, false, false, false, false, false] rfl rfl (by kernel_rfl) (fun _ _ _ h => h) (Or.inl ⟨by rfl, ?_⟩) ?_ ?_
  rotate_left
  · intro w'
    go_simp
    first | done | with_reducible rfl
  rotate_left
  · simp only [Act.put, List.setIfInBounds_toArray, List.set_cons_zero, List.set_cons_succ, i64_w, i32_w]
    rfl
  refine take_ (i := 13) (N := (some 57)) (v := ?_) (a' := ?_) #[true, true, true, true, true, true, true, true, true, true, true, true, true, true, false, false, false, false, false, false, false, false, false, false, false] rfl rfl (by kernel_rfl) (fun _ _ _ h => h) (Or.inl ⟨by rfl, ?_⟩) hHeld ?_ ?_
  rotate_left
  · intro w' hS
    have s0 := pw_cell_below hS c72
    go_simp
    first | done | with_reducible rfl
  rotate_left
  · simp only [Act.put, List.setIfInBounds_toArray, List.set_cons_zero, List.set_cons_succ, i64_w, i32_w]
    rfl
  refine pure_ (i := 14) (N := (some 58)) (v := ?_) (a' := ?_) #[true, true, true, true, true, true, true, true, true, true, true, true, true, true, true, false, false, false, false, false, false, false, false, false, false] rfl rfl (by kernel_rfl) (fun _ _ _ h => h) (Or.inl ⟨by rfl, ?_⟩) ?_ ?_
  rotate_left
  · intro w'
    go_simp
    first | done | with_reducible rfl
  rotate_left
  · simp only [Act.put, List.setIfInBounds_toArray, List.set_cons_zero, List.set_cons_succ, i64_w, i32_w]
    rfl
  refine pure_ (i := 15) (N := (some 59)) (v := ?_) (a' := ?_) #[true, true, true, true, true, true, true, true, true, true, true, true, true, true, true, true, false, false, false, false, false, false, false, false, false] rfl rfl (by kernel_rfl) (fun _ _ _ h => h) (Or.inl ⟨by rfl, ?_⟩) ?_ ?_
  rotate_left
  · intro w'
    go_simp
    first | done | with_reducible rfl
  rotate_left
  · simp only [Act.put, List.setIfInBounds_toArray, List.set_cons_zero, List.set_cons_succ, i64_w, i32_w]
    rfl
  refine pure_ (i := 16) (N := (some 60)) (v := ?_) (a' := ?_) #[true, true, true, true, true, true, true, true, true, true, true, true, true, true, true, true, true, false, false, false, false, false, false, false, false] rfl rfl (by kernel_rfl) (fun _ _ _ h => h) (Or.inl ⟨by rfl, ?_⟩) ?_ ?_
  rotate_left
  · intro w'
    skip
    go_simp
    first | done | with_reducible rfl
  rotate_left
  · simp only [Act.put, List.setIfInBounds_toArray, List.set_cons_zero, List.set_cons_succ, i64_w, i32_w]
    rfl
  refine pure_ (i := 17) (N := (some 61)) (v := ?_) (a' := ?_) #[true, true, true, true, true, true, true, true, true, true, true, true, true, true, true, true, true, true, false, false, false, false, false, false, false] rfl rfl (by kernel_rfl) (fun _ _ _ h => h) (Or.inl ⟨by rfl, ?_⟩) ?_ ?_
  rotate_left
  · intro w'
    go_simp
    first | done | with_reducible rfl
  rotate_left
  · simp only [Act.put, List.setIfInBounds_toArray, List.set_cons_zero, List.set_cons_succ, i64_w, i32_w]
    rfl
  refine take_ (i := 18) (N := (some 62)) (v := ?_) (a' := ?_) #[true, true, true, true, true, true, true, true, true, true, true, true, true, true, true, true, true, true, true, false, false, false, false, false, false] rfl rfl (by kernel_rfl) (fun _ _ _ h => h) (Or.inl ⟨by rfl, ?_⟩) hHeld ?_ ?_
  rotate_left
  · intro w' hS
    have s0 := pw_cell_below hS c78
    go_simp
    first | done | with_reducible rfl
  rotate_left
  · simp only [Act.put, List.setIfInBounds_toArray, List.set_cons_zero, List.set_cons_succ, i64_w, i32_w]
    rfl
  refine pure_ (i := 19) (N := (some 63)) (v := ?_) (a' := ?_) #[true, true, true, true, true, true, true, true, true, true, true, true, true, true, true, true, true, true, true, true, false, false, false, false, false] rfl rfl (by kernel_rfl) (fun _ _ _ h => h) (Or.inl ⟨by rfl, ?_⟩) ?_ ?_
  rotate_left
  · intro w'
    go_simp
    first | done | with_reducible rfl
  rotate_left
  · simp only [Act.put, List.setIfInBounds_toArray, List.set_cons_zero, List.set_cons_succ, i64_w, i32_w]
    rfl
  refine take_ (i := 20) (N := (some 64)) (v := ?_) (a' := ?_) #[true, true, true, true, true, true, true, true, true, true, true, true, true, true, true, true, true, true, true, true, true, false, false, false, false] rfl rfl (by kernel_rfl) (fun _ _ _ h => h) (Or.inl ⟨by rfl, ?_⟩) hHeld ?_ ?_
  rotate_left
  · intro w' hS
    have s0 := pw_cell_below hS cv
    go_simp
    first | done | with_reducible rfl
  rotate_left
  · simp only [Act.put, List.setIfInBounds_toArray, List.set_cons_zero, List.set_cons_succ, i64_w, i32_w]
    rfl
  refine one_ (i := 21) (N := (some 65)) #[true, true, true, true, true, true, true, true, true, true, true, true, true, true, true, true, true, true, true, true, true, true, false, false, false] rfl rfl (by kernel_rfl) (by decide) (fun K hK => ?_)
  refine goes_ Try.func27 (by kernel_rfl) rfl #[.int .i64 (r.n : Int), .int .i64 (8 * (r.rd + 1) + (r.id : Int)), .string v] (by rfl) rfl rfl (by (try simp only [List.map_toArray, List.map_cons, List.map_nil]); first | done | rfl) ?_
  rw [← HBAL.out]
  (with_reducible refine (HPN.out _).mono ?_)
  rintro e wc ⟨q, rfl, hq9, hb9, hB⟩
  refine ⟨_, rfl, ?_⟩
  have hS2 : Below W0.heap.size W0 wc := below_step hHeld hB
  have HP9 := Aside0.mk hb9
  have HN9 := Aside0.mk (Nat.le_trans hHeld.size hq9)
  clear hHeld hB hq9 hb9
  refine hK.out _ _ hS2 (fun hHeld => ?_)
  clear hK K
  refine norm_ (a' := ?_) ?_ ?_
  rotate_left
  · show Act.put _ (some 65) _ = _
    simp only [Act.put, List.setIfInBounds_toArray, List.set_cons_zero, List.set_cons_succ, i64_w, i32_w]
    rfl
  refine pure_ (i := 22) (N := (some 66)) (v := ?_) (a' := ?_) #[true, true, true, true, true, true, true, true, true, true, true, true, true, true, true, true, true, true, true, true, true, true, true, false, false] rfl rfl (by kernel_rfl) (fun _ _ _ h => h) (Or.inl ⟨by rfl, ?_⟩) ?_ ?_
  rotate_left
  · intro w'
    skip
    go_simp
    first | done | with_reducible rfl
  rotate_left
  · simp only [Act.put, List.setIfInBounds_toArray, List.set_cons_zero, List.set_cons_succ, i64_w, i32_w]
    rfl
  refine pure_ (i := 23) (N := (some 67)) (v := ?_) (a' := ?_) #[true, true, true, true, true, true, true, true, true, true, true, true, true, true, true, true, true, true, true, true, true, true, true, true, false] rfl rfl (by kernel_rfl) (fun _ _ _ h => h) (Or.inl ⟨by rfl, ?_⟩) ?_ ?_
  rotate_left
  · intro w'
    go_simp
    first | done | with_reducible rfl
  rotate_left
  · simp only [Act.put, List.setIfInBounds_toArray, List.set_cons_zero, List.set_cons_succ, i64_w, i32_w]
    rfl
  refine last_ (i := 24) (N := none) #[true, true, true, true, true, true, true, true, true, true, true, true, true, true, true, true, true, true, true, true, true, true, true, true, true] rfl rfl (by kernel_rfl) (by decide) (fun K hK => ?_)
  have HA := Aside0.mk (ID.out.new_p HBD.out q _ HP9.out HN9.out hHeld)
  have z9 : wc.cell? ⟨g, 79, none⟩ = some (pptr L r.p) := (ID.out.below hHeld).c_p
  have y9 : wc.frozen? ⟨g, 79, none⟩ = false := (ID.out.below hHeld).frz 79
  refine skip_ (by rfl) rfl (by first | (go_simp; done) | (go_simp; rfl)) ?_
  refine hK.out _ _ ?_
  clear hK K
  refine done_ (by kernel_rfl) ?_
  all_goals (
    have T2 := Aside0.mk (TD.out.trans HA.out.2)
    have I2 := Aside0.mk HA.out.1
    clear HA TD ID c72 c73 c74 c78 cv z9 y9 hHeld HP9 HN9
    go_wp2_with fail
    generalize wc.setCell ⟨g, 79, none⟩ (Value.pointer (some ⟨q, 0, none⟩)) = wd at *
    have ID := Aside0.mk I2.out.drew
    have TD := Aside0.mk T2.out.drew
    have HBE := Aside0.mk (Nat.le_trans HBS.out TD.out.size)
    have c75 : wd.drew.cell? ⟨g, 75, none⟩ = some (.slice Al r.log.length cl) := by rw [← HEL.out]; exact ID.out.c_log
    have c79 : wd.drew.cell? ⟨g, 79, none⟩ = some (.pointer (some ⟨q, 0, none⟩)) := ID.out.c_p
    have HPP := Aside0.mk (ID.out.pp rfl)
    clear I2 T2)
  refine start_ (n := 13) (S := fun w' => Below (wd).drew.heap.size (wd).drew w') (ds := [12]) #[false, false, false, false, false, false, false, false, false, false, false, false, false] (by kernel_rfl) rfl rfl (Below.refl _ _) (fun hHeld => ?_)
  generalize (wd).drew = W3 at *
  refine pure_ (i := 0) (N := (some 68)) (v := ?_) (a' := ?_) #[true, false, false, false, false, false, false, false, false, false, false, false, false] rfl rfl (by kernel_rfl) (fun _ _ _ h => h) (Or.inl ⟨by rfl, ?_⟩) ?_ ?_
  rotate_left
  · intro w'
    go_simp
    first | done | with_reducible rfl
  rotate_left
  · simp only [Act.put, List.setIfInBounds_toArray, List.set_cons_zero, List.set_cons_succ, i64_w, i32_w]
    rfl
  refine pure_ (i := 1) (N := (some 69)) (v := ?_) (a' := ?_) #[true, true, false, false, false, false, false, false, false, false, false, false, false] rfl rfl (by kernel_rfl) (fun _ _ _ h => h) (Or.inl ⟨by rfl, ?_⟩) ?_ ?_
  rotate_left
  · intro w'
    go_simp
    first | done | with_reducible rfl
  rotate_left
  · simp only [Act.put, List.setIfInBounds_toArray, List.set_cons_zero, List.set_cons_succ, i64_w, i32_w]
    rfl
  refine pure_ (i := 2) (N := (some 70)) (v := ?_) (a' := ?_) #[true, true, true, false, false, false, false, false, false, false, false, false, false] rfl rfl (by kernel_rfl) (fun _ _ _ h => h) (Or.inl ⟨by rfl, ?_⟩) ?_ ?_
  rotate_left
  · intro w'
    skip
    go_simp
    first | done | with_reducible rfl
  rotate_left
  · simp only [Act.put, List.setIfInBounds_toArray, List.set_cons_zero, List.set_cons_succ, i64_w, i32_w]
    rfl
  refine pure_ (i := 3) (N := (some 71)) (v := ?_) (a' := ?_) #[true, true, true, true, false, false, false, false, false, false, false, false, false] rfl rfl (by kernel_rfl) (fun _ _ _ h => h) (Or.inl ⟨by rfl, ?_⟩) ?_ ?_
  rotate_left
  · intro w'
    go_simp
    first | done | with_reducible rfl
  rotate_left
  · simp only [Act.put, List.setIfInBounds_toArray, List.set_cons_zero, List.set_cons_succ, i64_w, i32_w]
    rfl
  refine take_ (i := 4) (N := (some 72)) (v := ?_) (a' := ?_) #[true, true, true, true, true, false, false, false, false, false, false, false, false] rfl rfl (by kernel_rfl) (fun _ _ _ h => h) (Or.inl ⟨by rfl, ?_⟩) hHeld ?_ ?_
  rotate_left
  · intro w' hS
    have s0 := pw_cell_below hS c75
    go_simp
    first | done | with_reducible rfl
  rotate_left
  · simp only [Act.put, List.setIfInBounds_toArray, List.set_cons_zero, List.set_cons_succ, i64_w, i32_w]
    rfl
  refine pure_ (i := 5) (N := (some 73)) (v := ?_) (a' := ?_) #[true, true, true, true, true, true, false, false, false, false, false, false, false] rfl rfl (by kernel_rfl) (fun _ _ _ h => h) (Or.inl ⟨by rfl, ?_⟩) ?_ ?_
  rotate_left
  · intro w'
    go_simp
    first | done | with_reducible rfl
  rotate_left
  · simp only [Act.put, List.setIfInBounds_toArray, List.set_cons_zero, List.set_cons_succ, i64_w, i32_w]
    rfl
  refine pure_ (i := 6) (N := (some 74)) (v := ?_) (a' := ?_) #[true, true, true, true, true, true, true, false, false, false, false, false, false] rfl rfl (by kernel_rfl) (fun _ _ _ h => h) (Or.inl ⟨by rfl, ?_⟩) ?_ ?_
  rotate_left
  · intro w'
    go_simp
    first | done | with_reducible rfl
  rotate_left
  · simp only [Act.put, List.setIfInBounds_toArray, List.set_cons_zero, List.set_cons_succ, i64_w, i32_w]
    rfl
  refine pure_ (i := 7) (N := (some 75)) (v := ?_) (a' := ?_) #[true, true, true, true, true, true, true, true, false, false, false, false, false] rfl rfl (by kernel_rfl) (fun _ _ _ h => h) (Or.inl ⟨by rfl, ?_⟩) ?_ ?_
  rotate_left
  · intro w'
    skip
    go_simp
    first | done | with_reducible rfl
  rotate_left
  · simp only [Act.put, List.setIfInBounds_toArray, List.set_cons_zero, List.set_cons_succ, i64_w, i32_w]
    rfl
  refine pure_ (i := 8) (N := (some 76)) (v := ?_) (a' := ?_) #[true, true, true, true, true, true, true, true, true, false, false, false, false] rfl rfl (by kernel_rfl) (fun _ _ _ h => h) (Or.inl ⟨by rfl, ?_⟩) ?_ ?_
  rotate_left
  · intro w'
    go_simp
    first | done | with_reducible rfl
  rotate_left
  · simp only [Act.put, List.setIfInBounds_toArray, List.set_cons_zero, List.set_cons_succ, i64_w, i32_w]
    rfl
  refine take_ (i := 9) (N := (some 77)) (v := ?_) (a' := ?_) #[true, true, true, true, true, true, true, true, true, true, false, false, false] rfl rfl (by kernel_rfl) (fun _ _ _ h => h) (Or.inl ⟨by rfl, ?_⟩) hHeld ?_ ?_
  rotate_left
  · intro w' hS
    have s0 := pw_cell_below hS c79
    go_simp
    first | done | with_reducible rfl
  rotate_left
  · simp only [Act.put, List.setIfInBounds_toArray, List.set_cons_zero, List.set_cons_succ, i64_w, i32_w]
    rfl
  refine one_ (i := 10) (N := (some 78)) #[true, true, true, true, true, true, true, true, true, true, true, false, false] rfl rfl (by kernel_rfl) (by decide) (fun K hK => ?_)
  refine goes_ Try.func29 (by kernel_rfl) rfl #[.pointer (some ⟨q, 0, none⟩)] (by rfl) rfl rfl (by (try simp only [List.map_toArray, List.map_cons, List.map_nil]); first | done | rfl) ?_
  (with_reducible refine (ballot_c q r.n (fresh (ballotR r) v) _ (blk_below HPP.out hHeld)).mono ?_)
  rintro e we ⟨rfl, rfl⟩
  refine ⟨_, rfl, ?_⟩
  have hS2 := hHeld
  refine hK.out _ _ hS2 (fun hHeld => ?_)
  clear hK K
  refine norm_ (a' := ?_) ?_ ?_
  rotate_left
  · show Act.put _ (some 78) _ = _
    simp only [Act.put, List.setIfInBounds_toArray, List.set_cons_zero, List.set_cons_succ, i64_w, i32_w]
    rfl
  refine pure_ (i := 11) (N := (some 79)) (v := ?_) (a' := ?_) #[true, true, true, true, true, true, true, true, true, true, true, true, false] rfl rfl (by kernel_rfl) (fun _ _ _ h => h) (Or.inl ⟨by rfl, ?_⟩) ?_ ?_
  rotate_left
  · intro w'
    go_simp
    first | done | with_reducible rfl
  rotate_left
  · simp only [Act.put, List.setIfInBounds_toArray, List.set_cons_zero, List.set_cons_succ, i64_w, i32_w]
    rfl
  refine last_ (i := 12) (N := (some 80)) #[true, true, true, true, true, true, true, true, true, true, true, true, true] rfl rfl (by kernel_rfl) (by decide) (fun K hK => ?_)
  refine goes_ Try.func28 (by kernel_rfl) rfl #[.pointer (some ⟨g, 0, none⟩), .agg (encM ⟨1, 0, 0, r.log.length, ballotR r, 0, e0⟩).toArray, .bool true] (by rfl) rfl rfl (by (try simp only [List.map_toArray, List.map_cons, List.map_nil]); first | done | rfl) ?_
  (with_reducible refine (HALL.out _ _ (ID.out.below hHeld) (Nat.le_trans HBE.out hHeld.size)).mono ?_)
  rintro e wf ⟨rfl, L9, hI9, hT9⟩
  have HI9 := Aside0.mk hI9
  have HT9 := Aside0.mk ((TD.out.step hHeld).trans hT9)
  clear hI9 hT9 hHeld
  refine ⟨_, rfl, ?_⟩
  refine hK.out _ _ ?_
  clear hK K
  refine norm_ (a' := ?_) ?_ ?_
  rotate_left
  · show Act.put _ (some 80) _ = _
    simp only [Act.put, List.setIfInBounds_toArray, List.set_cons_zero, List.set_cons_succ, i64_w, i32_w]
    rfl
  refine done_ (by kernel_rfl) ?_
  all_goals (
    go_wp2_with fail
    go_end0
    exact ⟨rfl, L9, HI9.out, HT9.out⟩)
end Go.Proofs.Ythedebalecnldaa.Rp
namespace Go.Proofs.Ythedebalecnldaa.Rp
open Go Go.RowKit Go.Shelf Go.Proofs.YthedebalecnldaaW.PrintWords Go.Proofs.YthedebalecnldaaW.PrintLast Go.Proofs.YthedebalecnldaaW.PrintMore Go.Proofs.Ythedebalecnldaa.Mp Go.Proofs.Ythedebalecnldaa.Pt Go.Proofs.Ythedebalecnldaa.ShaP
open Go.Proofs.Ythedebalecnldaa.Dec (Sl Pp upd upd_self upd_ne e0 fresh promP accP isB sl0)
set_option linter.unusedVariables false
set_option linter.unusedSimpArgs false
variable {base g : Nat} {W W1 W2 : World} {L L' : Lay} {r r' : R}
theorem info_s : (Try.prog.info? 9).map (fun i => (i.zero, i.size, i.bytes)) = some (some (.string ⟨#[]⟩), 1, 16) := by kernel_rfl
/-- numbers that may be -/
structure Fit (r : R) : Prop where
  n1 : 1 ≤ r.n
  n5 : r.n ≤ 5
  id : r.id < r.n
  r0 : 0 ≤ r.rd
  r1 : r.rd ≤ 268435456
theorem beginR_fit (h : Fit r) : Fit (beginR r) := by
  unfold beginR
  split
  · exact h
  split
  · exact h
  split
  · exact h
  · rename_i v l h1 h2
    have hb : ballotR r ≤ 2147483639 := by omega
    unfold ballotR at hb
    exact ⟨h.n1, h.n5, h.id, show 0 ≤ r.rd + 1 by have := h.r0; omega, show r.rd + 1 ≤ 268435456 by omega⟩
theorem begin_c (w : World) (h : Is base w g L r) (hbs : base ≤ w.heap.size) (hf : Fit r) (hout : r.out.length ≤ 900000) :
    Calls Try.prog 24 #[.pointer (some ⟨g, 0, none⟩)] w fun e w' => e = .returned (.tuple #[]) ∧ ∃ L', Is base w' g L' (beginR r) ∧ Turn w w' (Own base g L r) (Own base g L' (beginR r)) := by
  by_cases hc : r.p.isSome = true ∨ r.qu = [] ∨ 1000 ≤ r.log.length ∨ 2147483639 < ballotR r
  · refine (begin_idle w h hf.r0 hf.r1 (by have := hf.id; have := hf.n5; omega) hc).mono ?_
    rintro e w' ⟨rfl, m, rfl⟩
    rw [beginR_busy hc]
    exact ⟨rfl, L, h.drewN m, turn_drewN w m _⟩
  · have h1 : r.p = none := by
      cases hp : r.p with
      | none => rfl
      | some p => exact absurd (.inl (by rw [hp]; rfl)) hc
    cases hq : r.qu with
    | nil => exact absurd (.inr (.inl hq)) hc
    | cons v l =>
      exact begin_go v l w h hbs hf.r0 hf.r1 (by have := hf.id; have := hf.n5; omega) hf.n1 (by have := hf.n5; omega) hout h1 hq (by
        rcases Nat.lt_or_ge r.log.length 1000 with q | q
        · exact q
        · exact absurd (.inr (.inr (.inl q))) hc) (by
        rcases Int.lt_or_le 2147483639 (ballotR r) with q | q
        · exact absurd (.inr (.inr (.inr q))) hc
        · exact q)
theorem contains_c (b : ByteArray) (w : World) (h : Is base w g L r) (hl : r.qu.length ≤ 100000) :
    ∃ A c, L.vqu = .slice A r.qu.length c ∧ Calls Try.prog 23 #[.slice A r.qu.length c, .string b] w fun e w' => e = .returned (.bool (Lib.containsS r.qu b)) ∧ w' = w := by
  obtain ⟨A, c, e, _, hC⟩ := h.qu_sl
  refine ⟨A, c, e, ?_⟩
  rcases Nat.eq_zero_or_pos r.qu.length with h0 | h0
  · have hq : r.qu = [] := List.length_eq_zero_iff.1 h0
    rw [h0, hq]
    exact Try.slices_Contains_string_empty A c b w
  · obtain ⟨gq, c9, e9⟩ := row_own h.qu h0
    rw [e] at e9
    injection e9 with e9 _ e8
    subst e9 e8
    have hcells : ∀ j, j < r.qu.length → w.cell? ⟨gq, 0 + j, none⟩ = some (.string (r.qu.getD j ByteArray.empty)) := fun j hj => by
      obtain ⟨ad, hA, hx⟩ := Kd.at_string hC (j : Int) (by omega) (by omega)
      obtain rfl := Option.some.inj hA
      rw [Int.toNat_natCast] at hx
      have e5 : (⟨gq, 0, none⟩ : Addr).add j = ⟨gq, 0 + j, none⟩ := by unfold Addr.add; split <;> simp_all
      rw [e5] at hx
      rw [hx]
      unfold rdOf
      rw [Int.toNat_natCast]
    have := Try.slices_Contains_string gq 0 r.qu.length c r.qu b w (Nat.le_refl _) (by omega) hcells
    rw [List.take_length] at this
    exact this
set_option maxRecDepth 100000 in
set_option maxHeartbeats 8000000 in
theorem want_c (b : ByteArray) (w : World) (h : Is base w g L r) (hbs : base ≤ w.heap.size) (hf : Fit r) (hout : r.out.length ≤ 900000) (hq : r.qu.length ≤ 100000) :
    Calls Try.prog 15 #[.pointer (some ⟨g, 0, none⟩), .string b] w fun e w' => e = .returned (.tuple #[]) ∧ ∃ L', Is base w' g L' (wantR r b) ∧ Turn w w' (Own base g L r) (Own base g L' (wantR r b)) := by
  obtain ⟨A, c, eq, hcon⟩ := contains_c b w h hq
  have k78 := h.c_qu
  rw [eq] at k78
  have HCON := Aside0.mk hcon
  have HD := Aside0.mk h
  have HEQ := Aside0.mk eq
  have HBS := Aside0.mk hbs
  have HQ := Aside0.mk hq
  by_cases hm : b ∈ r.qu
  · have hcb := (Lib.containsS_iff r.qu b).2 hm
    rw [hcb] at HCON
    have hw : wantR r b = r := if_pos hm
    rw [hw]
    clear h hbs hf hout hq eq hcon hcb hw hm
    go_enter Try.func15, Try.ntmps15
    go_wp2_with fail
    refine HCON.out.mono ?_
    rintro e wz ⟨rfl, rfl⟩
    go_wp2_with fail
    go_end0
    exact ⟨rfl, L, HD.out, Turn.refl _ _⟩
  · have hcb : Lib.containsS r.qu b = false := by
      cases hx : Lib.containsS r.qu b with
      | false => rfl
      | true => exact absurd ((Lib.containsS_iff r.qu b).1 hx) hm
    rw [hcb] at HCON
    have hw : wantR r b = beginR { r with qu := r.qu ++ [b] } := if_neg hm
    have HBG := Aside0.mk (fun (W : World) (L9 : Lay) (h9 : Is base W g L9 { r with qu := r.qu ++ [b] }) (hb9 : base ≤ W.heap.size) => begin_c W h9 hb9 ⟨hf.n1, hf.n5, hf.id, hf.r0, hf.r1⟩ hout)
    rw [hw]
    generalize beginR { r with qu := r.qu ++ [b] } = r9 at *
    clear h hbs hf hout hq eq hcon hcb hw hm
    go_enter Try.func15, Try.ntmps15
    go_wp2_with fail
    refine HCON.out.mono ?_
    rintro e wz ⟨rfl, rfl⟩
    go_wp2_with (first
      | ((with_reducible refine gate_dst (N := 17) rfl ?_); refine Kd.R_lit Kd.string (w0 := wz) wz.heap.size 9 rfl (N := 17) rfl (xs := [b]) (inner := [.string b]) (ok := fun _ => True) (okp := fun _ => True) (by first | (go_simp; done) | (go_simp; rfl)) (Kd.reps_scalar [b]) (fun _ _ => trivial) trivial (Below.refl _ _) (Nat.le_refl _) (by simp) ?_; intro v1 w1 hr1 hb1 hg1 hat1; have ID := Aside0.mk (HD.out.below hb1); have HBI := Aside0.mk (Nat.le_trans HBS.out hb1.size); have HR1 := Aside0.mk hr1; have TD := Aside0.mk (Turn.below (F := Own base g L r) hb1); obtain ⟨A1, c1, rfl⟩ := Kd.R_slice hr1; clear hb1 hg1 hat1 hr1)
      | ((with_reducible refine gate_builtin (b := .append) (xs := #[.tmp 15, .tmp 17]) rfl ?_); at_builtin; refine Kd.R_append_row (P := Try.prog) Value.string (⟨#[]⟩ : ByteArray) (w0 := w1) base rfl (.tmp 15) (.tmp 17) 44 9 (.string ⟨#[]⟩) 16 rfl Try.underlying44 info_s rfl (by decide) (.slice A r.qu.length c) r.qu [b] A1 1 c1 (fun _ => True) rfl rfl (fun _ _ => trivial) (by rw [← HEQ.out]; exact ID.out.qu) (Kd.R_reads' HR1.out).2.2 (Below.refl _ _) HBI.out (by have := HQ.out; have e1 : [b].length = 1 := rfl; omega) ?_; intro v2 w2 hr2 hb2 hg2 hat2; rw [← HEQ.out] at hg2 hat2; have hgb := ID.out.blk_grown hg2 (ID.out.ne_row (hf := flat_string) 4 (by decide) rfl); have z2 : w2.cell? ⟨g, 78, none⟩ = some L.vqu := (blk_cell hgb 78).trans ((rcs_get L r 6).trans rfl); have y2 := blk_frozen hgb 78; have HA := Aside0.mk (ID.out.app_qu HBI.out hr2 hg2 hat2); have HB2 := Aside0.mk hb2; obtain ⟨A2, m2, c2, rfl⟩ := R_sl hr2; clear hr2 hb2 hg2 hat2 hgb HR1)
      | (go_at_call 24; (with_reducible refine (HBG.out _ _ HA.out.1 (Nat.le_trans HBI.out HA.out.2.size)).mono ?_); rintro e wf ⟨rfl, L9, hI9, hT9⟩; have HI9 := Aside0.mk hI9; have HT9 := Aside0.mk ((TD.out.trans HA.out.2).trans hT9); clear hI9 hT9))
    go_end0
    exact ⟨rfl, L9, HI9.out, HT9.out⟩
end Go.Proofs.Ythedebalecnldaa.Rp
namespace Go.Proofs.Ythedebalecnldaa.Rp
open Go Go.RowKit Go.Shelf Go.Proofs.YthedebalecnldaaW.PrintWords Go.Proofs.YthedebalecnldaaW.PrintLast Go.Proofs.YthedebalecnldaaW.PrintMore Go.Proofs.Ythedebalecnldaa.Mp Go.Proofs.Ythedebalecnldaa.Pt Go.Proofs.Ythedebalecnldaa.ShaP
open Go.Proofs.Ythedebalecnldaa.Dec (Sl Pp upd upd_self upd_ne e0 fresh promP accP isB sl0)
set_option linter.unusedVariables false
set_option linter.unusedSimpArgs false
variable {base g : Nat} {W W1 W2 : World} {L L' : Lay} {r r' : R}
theorem new_bad (id n : Int) (h : ¬ (1 ≤ n ∧ n ≤ 5 ∧ 0 ≤ id ∧ id < n)) (w : World) :
    Calls Try.prog 5 #[.agg TV, .int .i64 id, .int .i64 n] w fun e w' => e = .returned (.tuple #[.pointer none, .int .i64 1]) ∧ Below w.heap.size w w' := by
  have HB := Aside0.mk ((Below.refl w.heap.size w).alloc (Nat.le_refl _) (.cells TV 34))
  generalize TV = T at *
  by_cases h1 : n < 1
  · clear h
    go_enter Try.func5, Try.ntmps5
    go_wp2
    refine bodyPost_ret (results_tmp2 rfl _ _ _) rfl ?_
    exact ⟨rfl, HB.out⟩
  · by_cases h2 : 5 < n
    · clear h
      go_enter Try.func5, Try.ntmps5
      go_wp2
      refine bodyPost_ret (results_tmp2 rfl _ _ _) rfl ?_
      exact ⟨rfl, HB.out⟩
    · by_cases h3 : id < 0
      · clear h
        go_enter Try.func5, Try.ntmps5
        go_wp2
        refine bodyPost_ret (results_tmp2 rfl _ _ _) rfl ?_
        exact ⟨rfl, HB.out⟩
      · have h4 : n ≤ id := by omega
        clear h
        go_enter Try.func5, Try.ntmps5
        go_wp2
        refine bodyPost_ret (results_tmp2 rfl _ _ _) rfl ?_
        exact ⟨rfl, HB.out⟩
/-- the parts that a replica is built of -/
abbrev npts (T : Array Value) (id n : Int) (m1 m2 m3 : Nat) : List (Nat × Value) := [(0, .agg T), (1, .int .i64 id), (2, .int .i64 n), (5, .map (some m1)), (6, .map (some m2)), (11, .map (some m3))]
def lay0 (m : Nat) : Lay := ⟨.slice none 0 0, m + 1, m + 2, .slice none 0 0, 0, .slice none 0 0, .slice none 0 0, .slice none 0 0, m + 3⟩
set_option maxRecDepth 100000 in
theorem built_new (id n m : Nat) : Try.prog.built 57 (npts TV id n (m + 1) (m + 1 + 1) (m + 1 + 1 + 1)) = some (rcs (lay0 m) (newR id n)) := by kernel_rfl
set_option maxRecDepth 100000 in
set_option maxHeartbeats 1000000 in
theorem new_good (id n : Nat) (h1 : 1 ≤ n) (h5 : n ≤ 5) (hid : id < n) (w : World) :
    Calls Try.prog 5 #[.agg TV, .int .i64 id, .int .i64 n] w fun e w' => e = .returned (.tuple #[.pointer (some ⟨w.heap.size + 4, 0, none⟩), .int .i64 0]) ∧
      w' = ((((w.alloc (.cells TV 34)).alloc (.map #[] 0)).alloc (.map #[] 0)).alloc (.map #[] 0)).alloc (.cells (rcs (lay0 w.heap.size) (newR id n)) 57) := by
  have HI := Aside0.mk (show (Try.prog.info? 34).map (·.size) = some TV.size from by rw [tv_size]; kernel_rfl)
  have HX := Aside0.mk (built_new id n w.heap.size)
  generalize rcs (lay0 w.heap.size) (newR id n) = X at *
  generalize TV = T at *
  have hm := fun t w => run_makeMap (P := Try.prog) t w
  have h2 : ¬ (n : Int) < 1 := by omega
  have h3 : ¬ 5 < (n : Int) := by omega
  have h4 : ¬ (id : Int) < 0 := by omega
  have h6 : ¬ (n : Int) ≤ (id : Int) := by omega
  clear h1 h5 hid
  go_enter Try.func5, Try.ntmps5
  go_wp2_with (first
      | (refine wpList_load_row rfl 34 (.tmp 3) rfl (w.heap.size) rfl 34 T (0, 0) _ (World.alloc_heap_new w _) Try.underlying34 rfl HI.out ?_)
      | (refine wpList_build rfl 57 #[(0, .tmp 23), (1, .tmp 24), (2, .tmp 25), (5, .tmp 26), (6, .tmp 27), (11, .tmp 28)] rfl ?_ ?_))
  · rw [HX.out]; rfl
  · have e := HX.out
    clear HX
    simp only [e, Option.getD_some]
    refine bodyPost_ret (results_tmp2 rfl _ _ _) rfl ?_
    exact ⟨rfl, rfl⟩
theorem row_nil {α : Type} (kd : Kd α) (e base : Nat) (W : World) : kd.R e W base (fun _ => True) (.slice none 0 0) [] := Kd.R_nil _ _ _ _ _
theorem heap_four (w : World) (a b c d e : Obj) : (((((w.alloc a).alloc b).alloc c).alloc d).alloc e).heap[w.heap.size + 4]? = some e := by simp [World.alloc, -World.alloc_eq, Array.getElem_push]
theorem heap_three (w : World) (a b c d e : Obj) : (((((w.alloc a).alloc b).alloc c).alloc d).alloc e).heap[w.heap.size + 3]? = some d := by simp [World.alloc, -World.alloc_eq, Array.getElem_push]
theorem heap_two (w : World) (a b c d e : Obj) : (((((w.alloc a).alloc b).alloc c).alloc d).alloc e).heap[w.heap.size + 2]? = some c := by simp [World.alloc, -World.alloc_eq, Array.getElem_push]
theorem heap_one (w : World) (a b c d e : Obj) : (((((w.alloc a).alloc b).alloc c).alloc d).alloc e).heap[w.heap.size + 1]? = some b := by simp [World.alloc, -World.alloc_eq, Array.getElem_push]
theorem latC_none : latC (fun _ => none) = fun _ => none := by
  funext v; unfold latC; split <;> rfl
theorem slC_none : slC (fun _ => none) = fun _ => none := by
  funext v; unfold slC; split <;> rfl
theorem ocC_none : ocC (fun _ => none) = fun _ => none := by
  funext v; unfold ocC; split <;> rfl
theorem imap_empty {k : TypeId} {b : Nat} {f : Cont} (h : W.heap[b]? = some (.map #[] 0)) (hf : f = fun _ => none) : IMap W Try.prog k b f := by
  subst hf
  exact ⟨#[], 0, h, Go.MapKept.stamped_empty 0, fun e h => by simp at h, fun x v h => by cases h⟩
/-- a replica that is new -/
theorem new_c (id n : Nat) (h1 : 1 ≤ n) (h5 : n ≤ 5) (hid : id < n) (w : World) :
    Calls Try.prog 5 #[.agg TV, .int .i64 id, .int .i64 n] w fun e w' => ∃ g L, e = .returned (.tuple #[.pointer (some ⟨g, 0, none⟩), .int .i64 0]) ∧ Is w.heap.size w' g L (newR id n) ∧ Below w.heap.size w w' := by
  refine (new_good id n h1 h5 hid w).mono ?_
  rintro e w' ⟨rfl, hw⟩
  have hB : Below w.heap.size w w' := by
    rw [hw]
    exact (((((Below.refl _ w).alloc (Nat.le_refl _) _).alloc (by simp) _).alloc (by simp <;> omega) _).alloc (by simp <;> omega) _).alloc (by simp <;> omega) _
  have e4 : w'.heap[w.heap.size + 4]? = some (.cells (rcs (lay0 w.heap.size) (newR id n)) 57 (0, 0)) := by
    rw [hw]; exact heap_four w _ _ _ _ _
  have e1 : w'.heap[w.heap.size + 1]? = some (.map #[] 0) := by
    rw [hw]; exact heap_one w _ _ _ _ _
  have e2 : w'.heap[w.heap.size + 2]? = some (.map #[] 0) := by
    rw [hw]; exact heap_two w _ _ _ _ _
  have e3 : w'.heap[w.heap.size + 3]? = some (.map #[] 0) := by
    rw [hw]; exact heap_three w _ _ _ _ _
  obtain ⟨m, hm⟩ : ∃ m, w.heap.size = m := ⟨_, rfl⟩
  rw [hm] at e1 e2 e3 e4 hB ⊢
  have hfeet : ∀ (i : Nat) (p : Part), (parts m (m + 4) (lay0 m) (newR id n))[i]? = some p → ∀ k, p.foot k → (i = 0 ∧ k = m + 4) ∨ (i = 2 ∧ k = m + 1) ∨ (i = 3 ∧ k = m + 2) ∨ (i = 9 ∧ k = m + 3) := fun i p hp k hk => by
    match i, hp with
    | 0, hp => obtain rfl := Option.some.inj hp; exact .inl ⟨rfl, hk⟩
    | 1, hp => obtain rfl := Option.some.inj hp; exact absurd hk (by simp [row, lay0, Value.ownBlock])
    | 2, hp => obtain rfl := Option.some.inj hp; exact .inr (.inl ⟨rfl, hk⟩)
    | 3, hp => obtain rfl := Option.some.inj hp; exact .inr (.inr (.inl ⟨rfl, hk⟩))
    | 4, hp => obtain rfl := Option.some.inj hp; exact absurd hk (by simp [row, lay0, Value.ownBlock])
    | 5, hp => obtain rfl := Option.some.inj hp; exact hk.elim
    | 6, hp => obtain rfl := Option.some.inj hp; exact absurd hk (by simp [row, lay0, Value.ownBlock])
    | 7, hp => obtain rfl := Option.some.inj hp; exact absurd hk (by simp [row, lay0, Value.ownBlock])
    | 8, hp => obtain rfl := Option.some.inj hp; exact absurd hk (by simp [row, lay0, Value.ownBlock])
    | 9, hp => obtain rfl := Option.some.inj hp; exact .inr (.inr (.inr ⟨rfl, hk⟩))
  refine ⟨m + 4, lay0 m, rfl, ⟨fun i p hp => ⟨?_, fun k hk => ?_⟩, fun i j p q hp hq hij k hk hk' => ?_⟩, hB⟩
  · match i, hp with
    | 0, hp => obtain rfl := Option.some.inj hp; exact e4
    | 1, hp => obtain rfl := Option.some.inj hp; exact row_nil _ _ _ _
    | 2, hp => obtain rfl := Option.some.inj hp; exact imap_empty e1 latC_none
    | 3, hp => obtain rfl := Option.some.inj hp; exact imap_empty e2 slC_none
    | 4, hp => obtain rfl := Option.some.inj hp; exact row_nil _ _ _ _
    | 5, hp => obtain rfl := Option.some.inj hp; exact trivial
    | 6, hp => obtain rfl := Option.some.inj hp; exact row_nil _ _ _ _
    | 7, hp => obtain rfl := Option.some.inj hp; exact row_nil _ _ _ _
    | 8, hp => obtain rfl := Option.some.inj hp; exact row_nil _ _ _ _
    | 9, hp => obtain rfl := Option.some.inj hp; exact imap_empty e3 ocC_none
  · have := hfeet i p hp k hk; omega
  · have := hfeet i p hp k hk
    have := hfeet j q hq k hk'
    omega
theorem waits_c (w : World) (h : Is base w g L r) : Calls Try.prog 10 #[.pointer (some ⟨g, 0, none⟩)] w fun e w' => e = .returned (.int .i64 r.qu.length) ∧ w' = w := by
  obtain ⟨A, c, eq, _⟩ := h.qu_sl
  have k78 := h.c_qu
  rw [eq] at k78
  clear h eq
  go_enter Try.func10, Try.ntmps10
  go_wp2
  go_ret
  exact ⟨rfl, rfl⟩
theorem cut_bad (a : Value) (now : Int) (h : now < 0 ∨ 2147483647 < now) (w : World) : Calls Try.prog 8 #[a, .int .i64 now] w fun e w' => e = .returned (.int .i64 1) ∧ w' = w := by
  by_cases h1 : now < 0
  · clear h
    go_enter Try.func8, Try.ntmps8
    go_wp2
    go_ret
    exact ⟨rfl, rfl⟩
  · have h2 : 2147483647 < now := h.resolve_left h1
    clear h
    go_enter Try.func8, Try.ntmps8
    go_wp2
    go_ret
    exact ⟨rfl, rfl⟩
end Go.Proofs.Ythedebalecnldaa.Rp
namespace Go.Proofs.Ythedebalecnldaa.Rp
open Go Go.RowKit Go.Shelf Go.Proofs.YthedebalecnldaaW.PrintWords Go.Proofs.YthedebalecnldaaW.PrintLast Go.Proofs.YthedebalecnldaaW.PrintMore Go.Proofs.Ythedebalecnldaa.Mp Go.Proofs.Ythedebalecnldaa.Pt Go.Proofs.Ythedebalecnldaa.ShaP Go.Proofs.Ythedebalecnldaa.PReplicaArgs
open Go.Proofs.Ythedebalecnldaa.Dec (Sl Pp upd upd_self upd_ne e0 fresh promP accP isB sl0)
set_option linter.unusedVariables false
set_option linter.unusedSimpArgs false
def numB (n : Int) : ByteArray := if n < 0 ∨ 2147483647 < n then strOfNums [0, 0, 0, 0] else strOfNums [(n / 16777216) % 256, (n / 65536) % 256, (n / 256) % 256, n % 256]
theorem numB_size (n : Int) : (numB n).size = 4 := by
  unfold numB
  split <;> exact strOfNums_size _
theorem num_f (n : Int) : wire_Number.f n = some (numB n) := by
  unfold wire_Number.f numB
  by_cases h1 : n < 0
  · rw [if_pos h1, if_pos (.inl h1)]; rfl
  · rw [if_neg h1]
    by_cases h2 : n > 2147483647
    · rw [if_pos h2, if_pos (.inr h2)]; rfl
    · rw [if_neg h2, if_neg (by omega)]
theorem num_w (n : Int) (w : World) : Calls Try.prog 17 #[.int .i64 n] w fun e w' => e = .returned (.string (numB n)) ∧ Below w.heap.size w w' := wire_Number.calls n (numB n) w (num_f n)
def texB (s : ByteArray) : ByteArray := numB s.size ++ s
theorem texB_size (s : ByteArray) : (texB s).size = 4 + s.size := by unfold texB; rw [ByteArray.size_append, numB_size]
theorem tex_f (s : ByteArray) (h : s.size ≤ 1000000) : wire_Text.f s = some (texB s) := by
  unfold wire_Text.f
  rw [num_f, Option.bind_some, if_pos (by rw [numB_size]; omega)]
  rfl
def markR : ByteArray := ⟨#[82]⟩
def reqB (x : Rq) : ByteArray := ((((markR ++ numB x.cl) ++ numB x.sq) ++ texB x.leaf) ++ texB x.key) ++ texB x.val
theorem markR_size : markR.size = 1 := rfl
theorem reqB_size (x : Rq) : (reqB x).size = 21 + x.leaf.size + x.key.size + x.val.size := by
  unfold reqB
  rw [ByteArray.size_append, ByteArray.size_append, ByteArray.size_append, ByteArray.size_append, ByteArray.size_append, markR_size, numB_size, numB_size, texB_size, texB_size, texB_size]
  omega
theorem req_f (x : Rq) (h1 : x.leaf.size ≤ 1000) (h2 : x.key.size ≤ 1000) (h3 : x.val.size ≤ 1000) : wire_Request.f x.cl x.sq x.leaf x.key x.val = some (reqB x) := by
  unfold wire_Request.f
  rw [num_f, Option.bind_some, if_pos (by rw [numB_size]; omega), num_f, Option.bind_some]
  rw [show (⟨#[82]⟩ : ByteArray) = markR from rfl]
  rw [if_pos (by rw [ByteArray.size_append, markR_size, numB_size, numB_size]; omega), tex_f _ (by omega), Option.bind_some]
  rw [if_pos (by rw [ByteArray.size_append, ByteArray.size_append, markR_size, numB_size, numB_size, texB_size]; omega), tex_f _ (by omega), Option.bind_some]
  rw [if_pos (by rw [ByteArray.size_append, ByteArray.size_append, ByteArray.size_append, markR_size, numB_size, numB_size, texB_size, texB_size]; omega), tex_f _ (by omega), Option.bind_some]
  rw [if_pos (by rw [ByteArray.size_append, ByteArray.size_append, ByteArray.size_append, ByteArray.size_append, markR_size, numB_size, numB_size, texB_size, texB_size, texB_size]; omega)]
  rfl
theorem req_w (x : Rq) (h : rightQ x) (w : World) : Calls Try.prog 16 #[.agg (encQ x).toArray] w fun e w' => e = .returned (.string (reqB x)) ∧ Below w.heap.size w w' :=
  wire_Request.calls x.cl x.sq x.leaf x.key x.val (reqB x) w (req_f x (by have := h.2.2.2.2.2.1; omega) (by have := h.2.2.2.2.2.2.1; omega) (by have := h.2.2.2.2.2.2.2.1; omega))
theorem nil_iff (s : ByteArray) : s.toList = [] ↔ s = e0 := by
  rw [ByteArray.toList_eq, List.eq_nil_iff_length_eq_zero, Array.length_toList]
  constructor
  · intro h
    exact ByteArray.ext (Array.size_eq_zero_iff.1 h)
  · intro h; rw [h]; rfl
theorem nil_beq (s : ByteArray) : (s.toList == ([] : List UInt8)) = decide (s = e0) := by
  by_cases h : s = e0
  · rw [decide_eq_true h]; exact beq_iff_eq.2 ((nil_iff s).2 h)
  · rw [decide_eq_false h]; exact beq_eq_false_iff_ne.2 (fun e => h ((nil_iff s).1 e))
theorem rig_f (x : Rq) : wire_Right.f x.cl x.sq x.leaf x.key x.val = some (decide (rightQ x)) := by
  unfold wire_Right.f rightQ
  by_cases a1 : x.cl ≥ 0
  · rw [if_pos a1]
    by_cases a2 : x.cl < 4
    · rw [if_pos a2]
      by_cases a3 : x.sq ≥ 1
      · rw [if_pos a3]
        by_cases a4 : x.sq ≤ 2147483647
        · rw [if_pos a4]
          by_cases a5 : (x.leaf.size : Int) ≥ 1
          · rw [if_pos a5]
            by_cases a6 : (x.leaf.size : Int) ≤ 200
            · rw [if_pos a6]
              by_cases a7 : (x.key.size : Int) ≤ 50
              · rw [if_pos a7]
                by_cases a8 : (x.val.size : Int) ≤ 100
                · rw [if_pos a8]
                  by_cases a9 : x.key = e0
                  · rw [if_pos ((nil_iff _).2 a9), nil_beq]
                    congr 1
                    exact decide_eq_decide.2 ⟨fun h => ⟨a1, a2, a3, a4, by omega, by omega, by omega, by omega, .inr h⟩, fun h => (h.2.2.2.2.2.2.2.2).elim (fun q => absurd a9 q) id⟩
                  · rw [if_neg (fun h => a9 ((nil_iff _).1 h))]
                    congr 1
                    exact (decide_eq_true ⟨a1, a2, a3, a4, by omega, by omega, by omega, by omega, .inl a9⟩).symm
                · rw [if_neg a8]; congr 1; exact (decide_eq_false (fun h => a8 (by have := h.2.2.2.2.2.2.2.1; omega))).symm
              · rw [if_neg a7]; congr 1; exact (decide_eq_false (fun h => a7 (by have := h.2.2.2.2.2.2.1; omega))).symm
            · rw [if_neg a6]; congr 1; exact (decide_eq_false (fun h => a6 (by have := h.2.2.2.2.2.1; omega))).symm
          · rw [if_neg a5]; congr 1; exact (decide_eq_false (fun h => a5 (by have := h.2.2.2.2.1; omega))).symm
        · rw [if_neg a4]; congr 1; exact (decide_eq_false (fun h => a4 h.2.2.2.1)).symm
      · rw [if_neg a3]; congr 1; exact (decide_eq_false (fun h => a3 h.2.2.1)).symm
    · rw [if_neg a2]; congr 1; exact (decide_eq_false (fun h => a2 h.2.1)).symm
  · rw [if_neg a1]; congr 1; exact (decide_eq_false (fun h => a1 h.1)).symm
theorem rig_w (x : Rq) (w : World) : Calls Try.prog 14 #[.agg (encQ x).toArray] w fun e w' => e = .returned (.bool (decide (rightQ x))) ∧ Below w.heap.size w w' :=
  wire_Right.calls x.cl x.sq x.leaf x.key x.val _ w (rig_f x)
end Go.Proofs.Ythedebalecnldaa.Rp
namespace Go.Proofs.Ythedebalecnldaa.Rp
open Go Go.RowKit Go.Shelf Go.Proofs.YthedebalecnldaaW.PrintWords Go.Proofs.YthedebalecnldaaW.PrintLast Go.Proofs.YthedebalecnldaaW.PrintMore Go.Proofs.Ythedebalecnldaa.Mp Go.Proofs.Ythedebalecnldaa.Pt Go.Proofs.Ythedebalecnldaa.ShaP
open Go.Proofs.Ythedebalecnldaa.Dec (Sl Pp upd upd_self upd_ne e0 fresh promP accP isB sl0)
open Go.Maps (Keyed)
set_option linter.unusedVariables false
set_option linter.unusedSimpArgs false
variable {base g : Nat} {W W1 W2 : World} {L L' : Lay} {r r' : R}
theorem laid : laidOutB Try.prog = true := by kernel_rfl
theorem keyedK : Keyed Try.prog 65 := Keyed.of_law (deep_law_laid laid (m := 2) (by omega) (of_decide_eq_true (by kernel_rfl)) (by kernel_rfl) (by rw [Try.underlying65]))
def wf (a : Int) : Prop := (Lit.int .i64 a).wf = true
theorem wf_of {a : Int} (h0 : -1000000000000 ≤ a) (h1 : a ≤ 1000000000000) : wf a := by
  unfold wf Lit.wf
  have e1 : IntKind.i64.min = -9223372036854775808 := rfl
  have e2 : IntKind.i64.max = 9223372036854775807 := rfl
  simp [e1, e2]
  omega
theorem ktK : Try.prog.keyType 65 = true := by kernel_rfl
theorem cellsK : Try.prog.cellsOf 65 = 2 := by kernel_rfl
theorem cellsI : Try.prog.cellsOf 3 = 1 := by kernel_rfl
theorem keyK {a b : Int} (ha : wf a) (hb : wf b) : ∃ kl, keyOf Try.prog 65 (kyV (a, b)) = some kl := by
  have hu := Try.underlying65
  have hu3 := Try.underlying3
  have hf : (Value.agg #[.int .i64 a, .int .i64 b]).formed Try.prog 65 = true := by simp [Value.formed, hu, cellsK]
  obtain ⟨d, hd⟩ : ∃ d, Try.prog.types.size = d + 1 := ⟨Try.prog.types.size - 1, by
    have : 0 < Try.prog.types.size := of_decide_eq_true (by kernel_rfl)
    omega⟩
  have h3 : ∀ x, wf x → Try.prog.keyLits (d + 1) 3 [.int .i64 x] = some [.int .i64 x] := fun x hx => by
    unfold Program.keyLits
    rw [hu3]
    simp only [and_self, true_and]
    exact if_pos hx
  have hk : Try.prog.keyLits (Try.prog.types.size + 1) 65 [.int .i64 a, .int .i64 b] = some [.int .i64 a, .int .i64 b] := by
    rw [hd]
    unfold Program.keyLits
    rw [hu]
    simp only [cellsK, cellsI, List.length_cons, List.length_nil, List.mapM_cons, List.mapM_nil, List.drop, List.take]
    simp [h3 a ha, h3 b hb]
  refine ⟨.string (keyBytes [.int .i64 a, .int .i64 b]), ?_⟩
  unfold keyOf
  rw [hu]
  simp only [ktK, kyV, hf, Bool.and_self, if_true]
  rw [show (Value.agg #[.int .i64 a, .int .i64 b]).cells.toList = [.int .i64 a, .int .i64 b] from rfl, hk]
  rfl
theorem zeroRy (W : World) : (zeroValue 49).run Try.prog W = .ok (ryV ry0) W := by kernel_rfl
theorem look_oc (h : Is base W g L r) {a b : Int} (ha : wf a) (hb : wf b) : (Instr.lookup 43 (.map (some L.goc)) (.agg #[.int .i64 a, .int .i64 b]) true).run Try.prog W = .ok (.tuple #[ryV ((r.oc (a, b)).getD ry0), .bool (r.oc (a, b)).isSome]) W := by
  obtain ⟨kl, hkl⟩ := keyK ha hb
  have h1 := h.oc.look true keyedK Try.underlying43 (zeroRy W) hkl
  rw [if_pos rfl, show ocC r.oc (kyV (a, b)) = (r.oc (a, b)).map ryV from rfl] at h1
  rw [show (.agg #[.int .i64 a, .int .i64 b] : Value) = kyV (a, b) from rfl, h1]
  cases r.oc (a, b) <;> rfl
theorem look_oc2 (h : Is base W g L r) {a b q0 q1 q2 : Int} {had : Bool} (ha : wf a) (hb : wf b) (hy : (r.oc (a, b)).getD ry0 = ⟨q0, q1, q2⟩) (hh : (r.oc (a, b)).isSome = had) : (Instr.lookup 43 (.map (some L.goc)) (.agg #[.int .i64 a, .int .i64 b]) true).run Try.prog W = .ok (.tuple #[.agg #[.int .i64 q0, .int .i64 q1, .int .i64 q2], .bool had]) W := by
  rw [look_oc h ha hb, hy, hh]; rfl
theorem rig_v (x0 x1 : Int) (x2 x3 x4 : ByteArray) (w : World) : Calls Try.prog 14 #[.agg #[.int .i64 x0, .int .i64 x1, .string x2, .string x3, .string x4]] w fun e w' => e = .returned (.bool (decide (rightQ ⟨x0, x1, x2, x3, x4⟩))) ∧ Below w.heap.size w w' := rig_w ⟨x0, x1, x2, x3, x4⟩ w
theorem req_v (x0 x1 : Int) (x2 x3 x4 : ByteArray) (h : rightQ ⟨x0, x1, x2, x3, x4⟩) (w : World) : Calls Try.prog 16 #[.agg #[.int .i64 x0, .int .i64 x1, .string x2, .string x3, .string x4]] w fun e w' => e = .returned (.string (reqB ⟨x0, x1, x2, x3, x4⟩)) ∧ Below w.heap.size w w' := req_w ⟨x0, x1, x2, x3, x4⟩ h w
noncomputable def askR (r : R) (x : Rq) : R := if (r.oc (x.cl, x.sq)).isSome = true then r else wantR r (reqB x)
def markC : ByteArray := ⟨#[67]⟩
def cutB (now : Int) : ByteArray := markC ++ numB now
theorem cutB_size (now : Int) : (cutB now).size = 5 := by unfold cutB; rw [ByteArray.size_append, numB_size]; rfl
set_option maxRecDepth 100000 in
set_option maxHeartbeats 8000000 in
theorem ask_bad (x : Rq) (w : World) (a : Value) (hx : ¬ rightQ x) :
    Calls Try.prog 7 #[a, .agg (encQ x).toArray] w fun e w' => e = .returned (.int .i64 1) ∧ Below w.heap.size w w' := by
  have OW := Aside0.mk (Mem.Own.nil w)
  obtain ⟨x0, x1, x2, x3, x4⟩ := x
  have HR := Aside0.mk (fun W => rig_v x0 x1 x2 x3 x4 W)
  rw [decide_eq_false hx] at HR
  clear hx
  go_enter Try.func7, Try.ntmps7
  go_wp2_with (first
    | ((with_reducible refine gate_dst (N := 3) rfl ?_); refine box_event ?hg (N := 3) ?hd (cs := #[.int .i64 x0, .int .i64 x1, .string x2, .string x3, .string x4]) (t := 24) ?hr ?_; (case hd => rfl); (case hg => rfl); (case hr => first | (go_simp; done) | (go_simp; rfl)); intro gX hg W_ hb hbb; have j0 := (blk_cell hb 0).trans rfl; have j1 := (blk_cell hb 1).trans rfl; have j2 := (blk_cell hb 2).trans rfl; have j3 := (blk_cell hb 3).trans rfl; have j4 := (blk_cell hb 4).trans rfl; have n_ : Aside0 (Mem.Own w W_ [(gX, #[.int .i64 x0, .int .i64 x1, .string x2, .string x3, .string x4], 24)]) := ⟨OW.out.new hg hb hbb⟩; clear OW hb hbb hg; have OW := n_; clear n_)
    | (go_at_call 14; (with_reducible refine (HR.out _).mono ?_); rintro e wz ⟨rfl, hB⟩; have n_ := Aside0.mk (OW.out.step hB); clear OW hB j0 j1 j2 j3 j4; have OW := n_; clear n_))
  go_ret
  exact ⟨rfl, OW.out.below⟩
set_option maxRecDepth 100000 in
set_option maxHeartbeats 8000000 in
theorem ask_good (x : Rq) (w : World) (h : Is base w g L r) (hbs : base ≤ w.heap.size) (hf : Fit r) (hout : r.out.length ≤ 900000) (hq : r.qu.length ≤ 100000) (hx : rightQ x) :
    Calls Try.prog 7 #[.pointer (some ⟨g, 0, none⟩), .agg (encQ x).toArray] w fun e w' => e = .returned (.int .i64 0) ∧ ∃ L', Is base w' g L' (askR r x) ∧ Turn w w' (Own base g L r) (Own base g L' (askR r x)) := by
  have OW := Aside0.mk (Mem.Own.nil w)
  have HD := Aside0.mk h
  have HBS := Aside0.mk hbs
  have HW := Aside0.mk (fun W (h9 : Is base W g L r) (hb9 : base ≤ W.heap.size) => want_c (reqB x) W h9 hb9 hf hout hq)
  have HWF := Aside0.mk (show wf x.cl ∧ wf x.sq from ⟨wf_of (by have := hx.1; omega) (by have := hx.2.1; omega), wf_of (by have := hx.2.2.1; omega) (by have := hx.2.2.2.1; omega)⟩)
  obtain ⟨y, hy⟩ : ∃ y, (r.oc (x.cl, x.sq)).getD ry0 = y := ⟨_, rfl⟩
  obtain ⟨y0', y1', y2'⟩ := y
  obtain ⟨had, hh⟩ : ∃ had, (r.oc (x.cl, x.sq)).isSome = had := ⟨_, rfl⟩
  have HLK := Aside0.mk (fun W (h : Is base W g L r) => look_oc2 h HWF.out.1 HWF.out.2 hy hh)
  have HA := Aside0.mk (show askR r x = if (r.oc (x.cl, x.sq)).isSome = true then r else wantR r (reqB x) from rfl)
  rw [hh] at HA
  generalize askR r x = r9 at *
  generalize wantR r (reqB x) = rw9 at *
  obtain ⟨x0, x1, x2, x3, x4⟩ := x
  have HR := Aside0.mk (fun W => rig_v x0 x1 x2 x3 x4 W)
  rw [decide_eq_true hx] at HR
  have HRQ := Aside0.mk (fun W => req_v x0 x1 x2 x3 x4 hx W)
  generalize reqB ⟨x0, x1, x2, x3, x4⟩ = rb at *
  clear h hbs hf hout hq hx hy hh HWF
  go_enter Try.func7, Try.ntmps7
  go_wp2_with (first
    | ((with_reducible refine gate_dst (N := 3) rfl ?_); refine box_event ?hg (N := 3) ?hd (cs := #[.int .i64 x0, .int .i64 x1, .string x2, .string x3, .string x4]) (t := 24) ?hr ?_; (case hd => rfl); (case hg => rfl); (case hr => first | (go_simp; done) | (go_simp; rfl)); intro gX hg W_ hb hbb; have j0 := (blk_cell hb 0).trans rfl; have j1 := (blk_cell hb 1).trans rfl; have j2 := (blk_cell hb 2).trans rfl; have j3 := (blk_cell hb 3).trans rfl; have j4 := (blk_cell hb 4).trans rfl; have n_ : Aside0 (Mem.Own w W_ [(gX, #[.int .i64 x0, .int .i64 x1, .string x2, .string x3, .string x4], 24)]) := ⟨OW.out.new hg hb hbb⟩; clear OW hb hbb hg; have OW := n_; clear n_)
    | (go_at_call 14; (with_reducible refine (HR.out _).mono ?_); rintro e wz ⟨rfl, hB⟩; have n_ := Aside0.mk (OW.out.step hB); clear OW hB j0 j1 j2 j3 j4; have OW := n_; clear n_))
  have OD := Aside0.mk OW.out.drew
  have ID := Aside0.mk (HD.out.below OD.out.below)
  have cM := ID.out.c_oc
  have e0' : wz.drew.cell? ⟨gX, 0, none⟩ = some (.int .i64 x0) := (OD.out.cell 0 rfl 0).trans rfl
  have e1' : wz.drew.cell? ⟨gX, 1, none⟩ = some (.int .i64 x1) := (OD.out.cell 0 rfl 1).trans rfl
  clear OW
  refine start_ (n := 16) (S := fun w' => Below (wz).drew.heap.size (wz).drew w') (ds := [14]) #[false, false, false, false, false, false, false, false, false, false, false, false, false, false, false, false] (by kernel_rfl) rfl rfl (Below.refl _ _) (fun hHeld => ?_)
  generalize (wz).drew = W0 at *
  refine pure_ (i := 0) (N := (some 11)) (v := ?_) (a' := ?_) #[true, false, false, false, false, false, false, false, false, false, false, false, false, false, false, false] rfl rfl (by kernel_rfl) (fun _ _ _ h => h) (Or.inl ⟨by rfl, ?_⟩) ?_ ?_
  rotate_left
  · intro w'
    go_simp
    first | done | with_reducible rfl
  rotate_left
  · simp only [Act.put, List.setIfInBounds_toArray, List.set_cons_zero, List.set_cons_succ, i64_w, i32_w]
    rfl
  refine pure_ (i := 1) (N := (some 12)) (v := ?_) (a' := ?_) #[true, true, false, false, false, false, false, false, false, false, false, false, false, false, false, false] rfl rfl (by kernel_rfl) (fun _ _ _ h => h) (Or.inl ⟨by rfl, ?_⟩) ?_ ?_
  rotate_left
  · intro w'
    skip
    go_simp
    first | done | with_reducible rfl
  rotate_left
  · simp only [Act.put, List.setIfInBounds_toArray, List.set_cons_zero, List.set_cons_succ, i64_w, i32_w]
    rfl
  refine pure_ (i := 2) (N := (some 13)) (v := ?_) (a' := ?_) #[true, true, true, false, false, false, false, false, false, false, false, false, false, false, false, false] rfl rfl (by kernel_rfl) (fun _ _ _ h => h) (Or.inl ⟨by rfl, ?_⟩) ?_ ?_
  rotate_left
  · intro w'
    go_simp
    first | done | with_reducible rfl
  rotate_left
  · simp only [Act.put, List.setIfInBounds_toArray, List.set_cons_zero, List.set_cons_succ, i64_w, i32_w]
    rfl
  refine take_ (i := 3) (N := (some 14)) (v := ?_) (a' := ?_) #[true, true, true, true, false, false, false, false, false, false, false, false, false, false, false, false] rfl rfl (by kernel_rfl) (fun _ _ _ h => h) (Or.inl ⟨by rfl, ?_⟩) hHeld ?_ ?_
  rotate_left
  · intro w' hS
    have s0 := pw_cell_below hS cM
    go_simp
    first | done | with_reducible rfl
  rotate_left
  · simp only [Act.put, List.setIfInBounds_toArray, List.set_cons_zero, List.set_cons_succ, i64_w, i32_w]
    rfl
  refine pure_ (i := 4) (N := (some 15)) (v := ?_) (a' := ?_) #[true, true, true, true, true, false, false, false, false, false, false, false, false, false, false, false] rfl rfl (by kernel_rfl) (fun _ _ _ h => h) (Or.inl ⟨by rfl, ?_⟩) ?_ ?_
  rotate_left
  · intro w'
    go_simp
    first | done | with_reducible rfl
  rotate_left
  · simp only [Act.put, List.setIfInBounds_toArray, List.set_cons_zero, List.set_cons_succ, i64_w, i32_w]
    rfl
  refine take_ (i := 5) (N := (some 16)) (v := ?_) (a' := ?_) #[true, true, true, true, true, true, false, false, false, false, false, false, false, false, false, false] rfl rfl (by kernel_rfl) (fun _ _ _ h => h) (Or.inl ⟨by rfl, ?_⟩) hHeld ?_ ?_
  rotate_left
  · intro w' hS
    have s0 := pw_cell_below hS e0'
    go_simp
    first | done | with_reducible rfl
  rotate_left
  · simp only [Act.put, List.setIfInBounds_toArray, List.set_cons_zero, List.set_cons_succ, i64_w, i32_w]
    rfl
  refine pure_ (i := 6) (N := (some 17)) (v := ?_) (a' := ?_) #[true, true, true, true, true, true, true, false, false, false, false, false, false, false, false, false] rfl rfl (by kernel_rfl) (fun _ _ _ h => h) (Or.inl ⟨by rfl, ?_⟩) ?_ ?_
  rotate_left
  · intro w'
    go_simp
    first | done | with_reducible rfl
  rotate_left
  · simp only [Act.put, List.setIfInBounds_toArray, List.set_cons_zero, List.set_cons_succ, i64_w, i32_w]
    rfl
  refine take_ (i := 7) (N := (some 18)) (v := ?_) (a' := ?_) #[true, true, true, true, true, true, true, true, false, false, false, false, false, false, false, false] rfl rfl (by kernel_rfl) (fun _ _ _ h => h) (Or.inl ⟨by rfl, ?_⟩) hHeld ?_ ?_
  rotate_left
  · intro w' hS
    have s0 := pw_cell_below hS e1'
    go_simp
    first | done | with_reducible rfl
  rotate_left
  · simp only [Act.put, List.setIfInBounds_toArray, List.set_cons_zero, List.set_cons_succ, i64_w, i32_w]
    rfl
  refine pure_ (i := 8) (N := (some 19)) (v := ?_) (a' := ?_) #[true, true, true, true, true, true, true, true, true, false, false, false, false, false, false, false] rfl rfl (by kernel_rfl) (fun _ _ _ h => h) (Or.inl ⟨by rfl, ?_⟩) ?_ ?_
  rotate_left
  · intro w'
    go_simp
    first | done | with_reducible rfl
  rotate_left
  · simp only [Act.put, List.setIfInBounds_toArray, List.set_cons_zero, List.set_cons_succ, i64_w, i32_w]
    rfl
  refine take_ (i := 9) (N := (some 20)) (v := ?_) (a' := ?_) #[true, true, true, true, true, true, true, true, true, true, false, false, false, false, false, false] rfl rfl (by kernel_rfl) (fun _ _ _ h => h) (Or.inl ⟨by rfl, ?_⟩) hHeld ?_ ?_
  rotate_left
  · intro w' hS
    have s0 := HLK.out _ (ID.out.below hS)
    go_simp
    first | done | with_reducible rfl
  rotate_left
  · simp only [Act.put, List.setIfInBounds_toArray, List.set_cons_zero, List.set_cons_succ, i64_w, i32_w]
    rfl
  refine pure_ (i := 10) (N := (some 10)) (v := ?_) (a' := ?_) #[true, true, true, true, true, true, true, true, true, true, true, false, false, false, false, false] rfl rfl (by kernel_rfl) (fun _ _ _ h => h) (Or.inl ⟨by rfl, ?_⟩) ?_ ?_
  rotate_left
  · intro w'
    go_simp
    first | done | with_reducible rfl
  rotate_left
  · simp only [Act.put, List.setIfInBounds_toArray, List.set_cons_zero, List.set_cons_succ, i64_w, i32_w]
    rfl
  refine pure_ (i := 11) (N := (some 21)) (v := ?_) (a' := ?_) #[true, true, true, true, true, true, true, true, true, true, true, true, false, false, false, false] rfl rfl (by kernel_rfl) (fun _ _ _ h => h) (Or.inl ⟨by rfl, ?_⟩) ?_ ?_
  rotate_left
  · intro w'
    go_simp
    first | done | with_reducible rfl
  rotate_left
  · simp only [Act.put, List.setIfInBounds_toArray, List.set_cons_zero, List.set_cons_succ, i64_w, i32_w]
    rfl
  refine pure_ (i := 12) (N := (some 22)) (v := ?_) (a' := ?_) #[true, true, true, true, true, true, true, true, true, true, true, true, true, false, false, false] rfl rfl (by kernel_rfl) (fun _ _ _ h => h) (Or.inl ⟨by rfl, ?_⟩) ?_ ?_
  rotate_left
  · intro w'
    go_simp
    first | done | with_reducible rfl
  rotate_left
  · simp only [Act.put, List.setIfInBounds_toArray, List.set_cons_zero, List.set_cons_succ, i64_w, i32_w]
    rfl
  refine one_ (i := 13) (N := (some 5)) #[true, true, true, true, true, true, true, true, true, true, true, true, true, true, false, false] rfl rfl (by kernel_rfl) (by decide) (fun K hK => ?_)
  refine box_step (by rfl) (N := 5) rfl (cs := #[.int .i64 0, .int .i64 0, .int .i64 0]) (t := 49) (by first | (go_simp; done) | (go_simp; rfl)) ?_
  intro gA hg wa hb hbb
  have OA := Aside0.mk ((OD.out.step hHeld).new hg hb hbb)
  have hS2 : Below W0.heap.size W0 wa := below_step hHeld hbb
  have z0 := (blk_cell hb 0).trans rfl
  have z1 := (blk_cell hb 1).trans rfl
  have z2 := (blk_cell hb 2).trans rfl
  have y0 := blk_frozen hb 0
  have y1 := blk_frozen hb 1
  have y2 := blk_frozen hb 2
  clear hb hbb hg hHeld
  refine hK.out _ _ hS2 (fun hHeld => ?_)
  clear hK K
  refine norm_ (a' := ?_) ?_ ?_
  rotate_left
  · show Act.put _ (some 5) _ = _
    simp only [Act.put, List.setIfInBounds_toArray, List.set_cons_zero, List.set_cons_succ, i64_w, i32_w]
    rfl
  refine last_ (i := 14) (N := none) #[true, true, true, true, true, true, true, true, true, true, true, true, true, true, true, false] rfl rfl (by kernel_rfl) (by decide) (fun K hK => ?_)
  refine skip_ (by rfl) rfl (by first | (go_simp; done) | (go_simp; rfl)) ?_
  refine hK.out _ _ ?_
  clear hK K
  refine pure_ (i := 15) (N := (some 6)) (v := ?_) (a' := ?_) #[true, true, true, true, true, true, true, true, true, true, true, true, true, true, true, true] rfl rfl (by kernel_rfl) (fun _ _ _ h => h) (Or.inl ⟨by rfl, ?_⟩) ?_ ?_
  rotate_left
  · intro w'
    go_simp
    first | done | with_reducible rfl
  rotate_left
  · simp only [Act.put, List.setIfInBounds_toArray, List.set_cons_zero, List.set_cons_succ, i64_w, i32_w]
    rfl
  refine done_ (by kernel_rfl) ?_
  all_goals (
    have OP := Aside0.mk (((OA.out.put 1 rfl 0 (.int .i64 y0') rfl).put 1 rfl 1 (.int .i64 y1') rfl).put 1 rfl 2 (.int .i64 y2') rfl)
    clear z0 z1 z2 y0 y1 y2 cM e0' e1' OA ID OD
    generalize ((wa.setCell ⟨gA, 0, none⟩ (.int .i64 y0')).setCell ⟨gA, 1, none⟩ (.int .i64 y1')).setCell ⟨gA, 2, none⟩ (.int .i64 y2') = wb at *)
  cases had with
  | true =>
    have HA2 : r9 = r := HA.out
    all_goals (
      go_wp2_with fail
      go_ret
      try rw [HA2]
      exact ⟨rfl, L, HD.out.below OP.out.below, Turn.below OP.out.below⟩)
  | false =>
    have HA2 : r9 = rw9 := HA.out
    have q0 := (OP.out.cell 0 rfl 0).trans rfl
    have q1 := (OP.out.cell 0 rfl 1).trans rfl
    have q2 := (OP.out.cell 0 rfl 2).trans rfl
    have q3 := (OP.out.cell 0 rfl 3).trans rfl
    have q4 := (OP.out.cell 0 rfl 4).trans rfl
    go_wp2_with (first
      | (go_at_call 16; (with_reducible refine (HRQ.out _).mono ?_); rintro e wd ⟨rfl, hB⟩; have n_ := Aside0.mk (OP.out.step hB); clear OP hB q0 q1 q2 q3 q4; have OP := n_; clear n_)
      | (go_at_call 15; (with_reducible refine (HW.out _ (HD.out.below OP.out.below) (Nat.le_trans HBS.out OP.out.size)).mono ?_); rintro e we ⟨rfl, L9, hI9, hT9⟩; have HI9 := Aside0.mk hI9; have HT9 := Aside0.mk ((Turn.below (F := Own base g L r) OP.out.below).trans hT9); clear hI9 hT9))
    go_ret
    try rw [HA2]
    exact ⟨rfl, L9, HI9.out, HT9.out⟩
set_option maxRecDepth 100000 in
set_option maxHeartbeats 8000000 in
theorem cut_good (now : Int) (w : World) (h : Is base w g L r) (hbs : base ≤ w.heap.size) (hf : Fit r) (hout : r.out.length ≤ 900000) (hq : r.qu.length ≤ 100000) (h0 : 0 ≤ now) (h1 : now ≤ 2147483647) :
    Calls Try.prog 8 #[.pointer (some ⟨g, 0, none⟩), .int .i64 now] w fun e w' => e = .returned (.int .i64 0) ∧ ∃ L', Is base w' g L' (wantR r (cutB now)) ∧ Turn w w' (Own base g L r) (Own base g L' (wantR r (cutB now))) := by
  have HD := Aside0.mk h
  have HBS := Aside0.mk hbs
  have HN := Aside0.mk (fun W => num_w now W)
  have HW := Aside0.mk (fun W (h9 : Is base W g L r) (hb9 : base ≤ W.heap.size) => want_c (cutB now) W h9 hb9 hf hout hq)
  generalize wantR r (cutB now) = rw9 at *
  have hsz : (numB now).size = 4 := numB_size now
  have hcb : cutB now = (⟨#[67]⟩ : ByteArray) ++ numB now := rfl
  rw [hcb] at HW
  clear hcb
  have hs2 : (9223372036854775807 < 1 + (numB now).size) = False := eq_false (by omega)
  generalize numB now = nb at *
  have h2 : ¬ now < 0 := by omega
  have h3 : ¬ 2147483647 < now := by omega
  clear h hbs hf hout hq h0 h1
  go_enter Try.func8, Try.ntmps8
  go_wp2_with (first
    | (go_at_call 17; (with_reducible refine (HN.out _).mono ?_); rintro e wd ⟨rfl, hB⟩; have HB := Aside0.mk hB; clear hB)
    | (go_at_call 15; (with_reducible refine (HW.out _ (HD.out.below HB.out) (Nat.le_trans HBS.out HB.out.size)).mono ?_); rintro e we ⟨rfl, L9, hI9, hT9⟩; have HI9 := Aside0.mk hI9; have HT9 := Aside0.mk ((Turn.below (F := Own base g L r) HB.out).trans hT9); clear hI9 hT9))
  go_ret
  exact ⟨rfl, L9, HI9.out, HT9.out⟩
end Go.Proofs.Ythedebalecnldaa.Rp
namespace Go.Proofs.Ythedebalecnldaa.Rp
open Go Go.RowKit Go.Shelf Go.Proofs.YthedebalecnldaaW.PrintWords Go.Proofs.YthedebalecnldaaW.PrintLast Go.Proofs.YthedebalecnldaaW.PrintMore Go.Proofs.Ythedebalecnldaa.Mp Go.Proofs.Ythedebalecnldaa.Pt Go.Proofs.Ythedebalecnldaa.ShaP Go.Proofs.Ythedebalecnldaa.PReplicaArgs
open Go.Proofs.Ythedebalecnldaa.Dec (Sl Pp upd upd_self upd_ne e0 fresh promP accP isB sl0)
set_option linter.unusedVariables false
set_option linter.unusedSimpArgs false
variable {base g : Nat} {W W1 W2 : World} {L L' : Lay} {r r' : R}
theorem leaf_iff (s : ByteArray) : 1 ≤ s.size ↔ s ≠ e0 := by
  constructor
  · intro h e; rw [e] at h; exact absurd h (by decide)
  · intro h
    rcases Nat.eq_zero_or_pos s.size with q | q
    · exact absurd (ByteArray.ext (Array.size_eq_zero_iff.1 q)) h
    · exact q
theorem ref_f (x : Rq) : annalistref02_Right.f 1 x.cl x.sq x.leaf x.key x.val = some (decide (rightQ x)) := by
  unfold annalistref02_Right.f
  have hbad : ∀ b : Bool, b = true → annalistref02_Right.j0 1 b x.cl x.sq x.leaf x.key x.val = some false := fun b h => by subst h; rfl
  by_cases a1 : x.cl < 0
  · rw [if_pos a1, hbad _ rfl]; congr 1; exact (decide_eq_false (fun h => by have := h.1; omega)).symm
  · rw [if_neg a1]
    by_cases a2 : x.cl > 3
    · rw [if_pos a2, hbad _ rfl]; congr 1; exact (decide_eq_false (fun h => by have := h.2.1; omega)).symm
    · rw [if_neg a2]
      by_cases a3 : x.sq < 1
      · rw [if_pos a3, hbad _ rfl]; congr 1; exact (decide_eq_false (fun h => by have := h.2.2.1; omega)).symm
      · rw [if_neg a3]
        by_cases a4 : x.sq > 2147483647
        · rw [decide_eq_true a4, hbad _ rfl]; congr 1; exact (decide_eq_false (fun h => by have := h.2.2.2.1; omega)).symm
        · rw [decide_eq_false a4]
          show (if false = true then some false else if x.leaf.toList = ([] : List UInt8) then some false else if (x.leaf.size : Int) > 200 then some false else if (x.key.size : Int) > 50 then some false else if (x.val.size : Int) > 100 then some false else if x.key.toList = ([] : List UInt8) then some (x.val.toList == ([] : List UInt8)) else some true) = some (decide (rightQ x))
          rw [if_neg (by decide)]
          by_cases a5 : x.leaf = e0
          · rw [if_pos ((nil_iff _).2 a5)]; congr 1; exact (decide_eq_false (fun h => (leaf_iff _).1 h.2.2.2.2.1 a5)).symm
          · rw [if_neg (fun h => a5 ((nil_iff _).1 h))]
            by_cases a6 : (x.leaf.size : Int) > 200
            · rw [if_pos a6]; congr 1; exact (decide_eq_false (fun h => by have := h.2.2.2.2.2.1; omega)).symm
            · rw [if_neg a6]
              by_cases a7 : (x.key.size : Int) > 50
              · rw [if_pos a7]; congr 1; exact (decide_eq_false (fun h => by have := h.2.2.2.2.2.2.1; omega)).symm
              · rw [if_neg a7]
                by_cases a8 : (x.val.size : Int) > 100
                · rw [if_pos a8]; congr 1; exact (decide_eq_false (fun h => by have := h.2.2.2.2.2.2.2.1; omega)).symm
                · rw [if_neg a8]
                  have hl := (leaf_iff x.leaf).2 a5
                  by_cases a9 : x.key = e0
                  · rw [if_pos ((nil_iff _).2 a9), nil_beq]
                    congr 1
                    exact decide_eq_decide.2 ⟨fun h => ⟨by omega, by omega, by omega, by omega, hl, by omega, by omega, by omega, .inr h⟩, fun h => (h.2.2.2.2.2.2.2.2).elim (fun q => absurd a9 q) id⟩
                  · rw [if_neg (fun h => a9 ((nil_iff _).1 h))]
                    congr 1
                    exact (decide_eq_true ⟨by omega, by omega, by omega, by omega, hl, by omega, by omega, by omega, .inl a9⟩).symm
theorem ref_v (x0 x1 : Int) (x2 x3 x4 : ByteArray) (w : World) : Calls Try.prog 9 #[.agg #[.int .i64 x0, .int .i64 x1, .string x2, .string x3, .string x4]] w fun e w' => e = .returned (.bool (decide (rightQ ⟨x0, x1, x2, x3, x4⟩))) ∧ Below w.heap.size w w' :=
  annalistref02_Right.calls 1 x0 x1 x2 x3 x4 _ w (ref_f ⟨x0, x1, x2, x3, x4⟩)
theorem beginR_qu (r : R) : (beginR r).qu = r.qu := by
  unfold beginR
  split
  · rfl
  split
  · rfl
  split <;> rfl
theorem beginR_out (r : R) : (beginR r).out.length ≤ r.out.length + r.n := by
  unfold beginR
  split
  · omega
  split
  · omega
  split
  · omega
  · rw [toK_all]
    show (r.out ++ toK _ _ true r.n).length ≤ _
    rw [List.length_append]
    have := toK_len { r with rd := r.rd + 1, p := some (fresh (ballotR r) ‹ByteArray›) } ⟨1, 0, 0, r.log.length, ballotR r, 0, e0⟩ true r.n
    omega
noncomputable def askA (r : R) (x : Rq) (b : Bool) : R := if b then askR r x else r
noncomputable def cutA (r : R) (now : Int) (b : Bool) : R := if b then wantR r (cutB now) else r
theorem wantR_fit (b : ByteArray) (h : Fit r) : Fit (wantR r b) := by
  unfold wantR
  split
  · exact h
  · exact beginR_fit ⟨h.n1, h.n5, h.id, h.r0, h.r1⟩
theorem wantR_out (r : R) (b : ByteArray) : (wantR r b).out.length ≤ r.out.length + r.n := by
  unfold wantR
  split
  · omega
  · exact beginR_out _
theorem wantR_qu {b : ByteArray} (h : b ∉ r.qu) : (wantR r b).qu = r.qu ++ [b] := by
  unfold wantR
  rw [if_neg h, beginR_qu]
theorem ask_any (x0 x1 : Int) (x2 x3 x4 : ByteArray) (b : Bool) (hb : decide (rightQ ⟨x0, x1, x2, x3, x4⟩) = b) (w : World) (h : Is base w g L r) (hbs : base ≤ w.heap.size) (hf : Fit r) (hout : r.out.length ≤ 900000) (hq : r.qu.length ≤ 100000) :
    Calls Try.prog 7 #[.pointer (some ⟨g, 0, none⟩), .agg #[.int .i64 x0, .int .i64 x1, .string x2, .string x3, .string x4]] w fun e w' => e = .returned (.int .i64 (cond b 0 1)) ∧ ∃ L', Is base w' g L' (askA r ⟨x0, x1, x2, x3, x4⟩ b) ∧ Turn w w' (Own base g L r) (Own base g L' (askA r ⟨x0, x1, x2, x3, x4⟩ b)) := by
  cases b with
  | true => exact ask_good ⟨x0, x1, x2, x3, x4⟩ w h hbs hf hout hq (of_decide_eq_true hb)
  | false =>
    refine (ask_bad ⟨x0, x1, x2, x3, x4⟩ w _ (of_decide_eq_false hb)).mono ?_
    rintro e w' ⟨rfl, hB⟩
    exact ⟨rfl, L, h.below hB, Turn.below hB⟩
theorem cut_any (now : Int) (b : Bool) (hb : decide (0 ≤ now ∧ now ≤ 2147483647) = b) (w : World) (h : Is base w g L r) (hbs : base ≤ w.heap.size) (hf : Fit r) (hout : r.out.length ≤ 900000) (hq : r.qu.length ≤ 100000) :
    Calls Try.prog 8 #[.pointer (some ⟨g, 0, none⟩), .int .i64 now] w fun e w' => e = .returned (.int .i64 (cond b 0 1)) ∧ ∃ L', Is base w' g L' (cutA r now b) ∧ Turn w w' (Own base g L r) (Own base g L' (cutA r now b)) := by
  cases b with
  | true =>
    have := of_decide_eq_true hb
    exact cut_good now w h hbs hf hout hq this.1 this.2
  | false =>
    have := of_decide_eq_false hb
    refine (cut_bad _ now (by omega) w).mono ?_
    rintro e w' ⟨rfl, rfl⟩
    exact ⟨rfl, L, h, Turn.refl _ _⟩
theorem newR_fit (id n : Nat) (h1 : 1 ≤ n) (h5 : n ≤ 5) (hid : id < n) : Fit (newR id n) := ⟨h1, h5, hid, Int.le_refl 0, show (0 : Int) ≤ 268435456 by decide⟩
theorem askA_new (id n : Nat) (x : Rq) (b : Bool) (h1 : 1 ≤ n) (h5 : n ≤ 5) (hid : id < n) : Fit (askA (newR id n) x b) ∧ (askA (newR id n) x b).out.length ≤ 10 ∧ (askA (newR id n) x b).qu = (cond b [reqB x] []) := by
  have hf := newR_fit id n h1 h5 hid
  cases b with
  | false => exact ⟨hf, Nat.zero_le _, rfl⟩
  | true =>
    have e : askA (newR id n) x true = wantR (newR id n) (reqB x) := rfl
    rw [e]
    refine ⟨wantR_fit _ hf, ?_, wantR_qu (by intro h; cases h)⟩
    have := wantR_out (newR id n) (reqB x)
    have h0 : (newR id n).out.length = 0 := rfl
    have h9 : (newR id n).n = n := rfl
    omega
theorem cutA_qu (r : R) (now : Int) (x : Rq) (b t : Bool) (hq : r.qu = cond b [reqB x] []) : (cutA r now t).qu.length = cond b 1 0 + cond t 1 0 := by
  have hne : cutB now ≠ reqB x := fun e => by
    have := congrArg ByteArray.size e
    rw [cutB_size, reqB_size] at this
    omega
  cases t with
  | false =>
    show r.qu.length = _
    rw [hq]; cases b <;> rfl
  | true =>
    show (wantR r (cutB now)).qu.length = _
    rw [wantR_qu (by rw [hq]; cases b <;> simp [hne])]
    rw [hq]; cases b <;> rfl
set_option maxRecDepth 100000 in
set_option maxHeartbeats 1000000 in
theorem awake20_c (w : World) : Calls Try.prog 4 #[] w fun e w' => e = .returned (.bool true) ∧ Below w.heap.size w w' := by
  have HM := Aside0.mk (fun W => make_c W)
  have HN1 := Aside0.mk (fun W => new_bad 1 1 (by omega) W)
  have HN2 := Aside0.mk (fun (W : World) => (new_c 0 1 (by omega) (by omega) (by omega) W).mono (fun e w' (h : ∃ g L, e = .returned (.tuple #[.pointer (some ⟨g, 0, none⟩), .int .i64 0]) ∧ Is W.heap.size w' g L (newR 0 1) ∧ Below W.heap.size W w') => (show ∃ g, e = .returned (.tuple #[.pointer (some ⟨g, 0, none⟩), .int .i64 0]) ∧ Below W.heap.size W w' from by obtain ⟨g, L, h1, _, h3⟩ := h; exact ⟨g, h1, h3⟩)))
  have HC := Aside0.mk (fun a W => cut_bad a (-1) (.inl (by omega)) W)
  have HB := Aside0.mk (Below.refl w.heap.size w)
  simp only [show ((0 : Nat) : Int) = 0 from rfl, show ((1 : Nat) : Int) = 1 from rfl] at HN2
  generalize TV = T at *
  go_enter Try.func4, Try.ntmps4
  go_wp2_with (first
    | (go_at_call 6; refine (HM.out _).mono ?_; rintro e w1 ⟨rfl, hb⟩; have n_ := Aside0.mk (below_step HB.out hb); clear HB hb; have HB := n_; clear n_)
    | (go_at_call 5; with_reducible refine (HN1.out _).mono ?_; rintro e w1 ⟨rfl, hb⟩; have n_ := Aside0.mk (below_step HB.out hb); clear HB hb; have HB := n_; clear n_)
    | (go_at_call 5; with_reducible refine (HN2.out _).mono ?_; rintro e w1 ⟨g, rfl, hb⟩; have n_ := Aside0.mk (below_step HB.out hb); clear HB hb; have HB := n_; clear n_)
    | (go_at_call 8; refine (HC.out _ _).mono ?_; rintro e w1 ⟨rfl, rfl⟩))
  go_ret
  exact ⟨rfl, HB.out⟩
end Go.Proofs.Ythedebalecnldaa.Rp
