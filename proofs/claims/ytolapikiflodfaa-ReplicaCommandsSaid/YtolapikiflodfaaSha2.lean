/- Here is proved: what sha.greatest makes of the two predicates, sha.square and sha.cube. Conditions: none. -/
import Derived.Test.YtolapikiflodfaaSha1
import Derived.Laws.BitsAllLaws
namespace Go.Proofs.Ytolapikiflodfaa.Sha
open Go Go.Proofs Go.RowKit Go.Shelf
attribute [local go_sem] Oper.semAt_some

/-- the greatest number that is so, bit by bit -/
def grF (isB : Nat → Bool) : Nat → Nat → Nat
  | 0, x => x
  | k + 1, x => grF isB k (if isB (x ||| 2 ^ k) then x ||| 2 ^ k else x)
def bitK (k : Nat) : Nat := 2 ^ k / 2
theorem bitK_succ (k : Nat) : bitK (k + 1) = 2 ^ k := by unfold bitK; rw [Nat.pow_succ]; omega
theorem bitK_half (k : Nat) : ((2 ^ k : Nat) : Int) / 2 = ((bitK k : Nat) : Int) := by unfold bitK; omega
theorem bitK_0 : bitK 0 = 0 := rfl

theorem fnE117 : ∀ args w, (callFunc 117 args).run Try.prog w = .ok (.enter 117 args) w := enters_of Try.func117 (by kernel_rfl) rfl
set_option maxHeartbeats 1000000 in
theorem gr117 (p : Nat) (hp : p < 1000) (b : Nat) (w : World) (hb : Boxed w b 145 (.int .u64 p)) :
    Calls Try.prog 114 #[.func (.func 117) #[] #[.pointer (some ⟨b, 0, none⟩)]] w fun e w' => e = .returned (.int .u64 (grF (isSq p) 36 0 : Nat)) ∧ w' = w := by
  have HC := Lib.hid (fun x (hx : x < 68719476736) => sq_is p x hp hx b w hb)
  obtain ⟨T, hT⟩ : ∃ T, grF (isSq p) 36 0 = T := ⟨_, rfl⟩
  rw [hT]
  have HT := Lib.hid hT
  clear hT hb hp
  go_enter Try.func114, Try.ntmps114
  go_wp2
  go_loop [3, 4] (fun s3 s4 => ∃ (k x : Nat), k ≤ 36 ∧ x < 68719476736 ∧ s3 = .int .u64 x ∧ s4 = .int .u64 (bitK k) ∧ Hid (grF (isSq p) k x = T)) (fun _ s4 => (intOf s4).toNat)
  case atStart => exact ⟨36, 0, Nat.le_refl _, by decide, rfl, by rw [show bitK 36 = 34359738368 from rfl]; rfl, HT⟩
  case round =>
    obtain ⟨k, x, hk, hx, rfl, rfl, HG⟩ := hrel
    match k, hk, HG with
    | 0, _, HG =>
      rw [bitK_0]
      go_wp2
      go_ret
      exact ⟨by rw [← HG.out]; rfl, rfl⟩
    | k + 1, hk, HG =>
      have hor : x ||| 2 ^ k < 68719476736 := Nat.or_lt_two_pow (n := 36) hx (Nat.pow_lt_pow_right (by decide) (by omega))
      have hcall := HC.out _ hor
      have hG := HG.out
      rw [grF] at hG
      rw [bitK_succ]
      have hhalf := bitK_half k
      have hpos : 0 < 2 ^ k := Nat.two_pow_pos k
      have hle : 2 ^ k < 68719476736 := Nat.pow_lt_pow_right (n := 36) (by decide) (by omega)
      generalize 2 ^ k = y at *
      have hbits := u64_or_nat x y (by omega) (by omega)
      generalize x ||| y = z at *
      cases hq : isSq p z with
      | true =>
        rw [hq] at hcall hG
        have HG2 := Lib.hid hG
        clear hG hq HC HT HG
        go_wp2_with (go_at_call 117; refine hcall.mono ?_; rintro e w2 ⟨rfl, rfl⟩)
        go_round
        case rel => exact ⟨k, z, by omega, hor, by go_num, by go_num, HG2⟩
        case measure => simp [intOf]; omega
      | false =>
        rw [hq] at hcall hG
        have HG2 := Lib.hid hG
        clear hG hq HC HT HG
        go_wp2_with (go_at_call 117; refine hcall.mono ?_; rintro e w2 ⟨rfl, rfl⟩)
        go_round
        case rel => exact ⟨k, x, by omega, hx, by go_num, by go_num, HG2⟩
        case measure => simp [intOf]; omega

theorem fnE115 : ∀ args w, (callFunc 115 args).run Try.prog w = .ok (.enter 115 args) w := enters_of Try.func115 (by kernel_rfl) rfl
set_option maxHeartbeats 1000000 in
theorem gr115 (p : Nat) (hp : p < 1000) (b : Nat) (w : World) (hb : Boxed w b 145 (.int .u64 p)) :
    Calls Try.prog 114 #[.func (.func 115) #[] #[.pointer (some ⟨b, 0, none⟩)]] w fun e w' => e = .returned (.int .u64 (grF (isCu p) 36 0 : Nat)) ∧ w' = w := by
  have HC := Lib.hid (fun x (hx : x < 68719476736) => cu_is p x hp hx b w hb)
  obtain ⟨T, hT⟩ : ∃ T, grF (isCu p) 36 0 = T := ⟨_, rfl⟩
  rw [hT]
  have HT := Lib.hid hT
  clear hT hb hp
  go_enter Try.func114, Try.ntmps114
  go_wp2
  go_loop [3, 4] (fun s3 s4 => ∃ (k x : Nat), k ≤ 36 ∧ x < 68719476736 ∧ s3 = .int .u64 x ∧ s4 = .int .u64 (bitK k) ∧ Hid (grF (isCu p) k x = T)) (fun _ s4 => (intOf s4).toNat)
  case atStart => exact ⟨36, 0, Nat.le_refl _, by decide, rfl, by rw [show bitK 36 = 34359738368 from rfl]; rfl, HT⟩
  case round =>
    obtain ⟨k, x, hk, hx, rfl, rfl, HG⟩ := hrel
    match k, hk, HG with
    | 0, _, HG =>
      rw [bitK_0]
      go_wp2
      go_ret
      exact ⟨by rw [← HG.out]; rfl, rfl⟩
    | k + 1, hk, HG =>
      have hor : x ||| 2 ^ k < 68719476736 := Nat.or_lt_two_pow (n := 36) hx (Nat.pow_lt_pow_right (by decide) (by omega))
      have hcall := HC.out _ hor
      have hG := HG.out
      rw [grF] at hG
      rw [bitK_succ]
      have hhalf := bitK_half k
      have hpos : 0 < 2 ^ k := Nat.two_pow_pos k
      have hle : 2 ^ k < 68719476736 := Nat.pow_lt_pow_right (n := 36) (by decide) (by omega)
      generalize 2 ^ k = y at *
      have hbits := u64_or_nat x y (by omega) (by omega)
      generalize x ||| y = z at *
      cases hq : isCu p z with
      | true =>
        rw [hq] at hcall hG
        have HG2 := Lib.hid hG
        clear hG hq HC HT HG
        go_wp2_with (go_at_call 115; refine hcall.mono ?_; rintro e w2 ⟨rfl, rfl⟩)
        go_round
        case rel => exact ⟨k, z, by omega, hor, by go_num, by go_num, HG2⟩
        case measure => simp [intOf]; omega
      | false =>
        rw [hq] at hcall hG
        have HG2 := Lib.hid hG
        clear hG hq HC HT HG
        go_wp2_with (go_at_call 115; refine hcall.mono ?_; rintro e w2 ⟨rfl, rfl⟩)
        go_round
        case rel => exact ⟨k, x, by omega, hx, by go_num, by go_num, HG2⟩
        case measure => simp [intOf]; omega

end Go.Proofs.Ytolapikiflodfaa.Sha
