/- Here is proved: what collide.short tells. Conditions: none. -/
import Derived.RangeFuncNested
import Derived.RangeFuncBound
import Derived.RangeFuncCalls
import Derived.RangeFuncLeaves
import Derived.Shelf.Abstract
import Derived.Shelf.RegionOpen
import Derived.OwnWalkIn
import Derived.TacticsInMore
import Derived.Test.YtolapikiflodfaaMem
namespace Go.Proofs.Ytolapikiflodfaa.Short
open Go Go.Proofs Go.RowKit Go.Shelf
open Go.Proofs.YtolapikiflodfaaW.PrintWords Go.Proofs.YtolapikiflodfaaW.PrintLast Go.Proofs.YtolapikiflodfaaW.PrintMore
/-- the texts of a slice -/
def Texts (w : World) (A : Option Addr) (l : List ByteArray) : Prop := ∀ j (h : j < l.length), ∃ ad, A = some ad ∧ w.cell? (ad.add j) = some (.string l[j])
theorem notHash_c (s : ByteArray) (w : World) (b : Bool) (hb : (s.size != 32) = b) : Calls Try.prog 128 #[.string s] w fun e w2 => e = .returned (.bool b) ∧ w = w2 := by
  have HB := Lib.hid hb
  clear hb
  cases b with
  | false =>
    have e := HB.out
    have h32 : s.size = 32 := by simpa using e
    have hi : ((s.size : Int) != 32) = false := by rw [h32]; rfl
    clear e h32
    go_enter Try.func128, Try.ntmps128
    go_wp2
    go_ret
    exact ⟨rfl, rfl⟩
  | true =>
    have e := HB.out
    have h32 : s.size ≠ 32 := by simpa using e
    have hi : ((s.size : Int) != 32) = true := by rw [bne_iff_ne]; omega
    clear e h32
    go_enter Try.func128, Try.ntmps128
    go_wp2
    go_ret
    exact ⟨rfl, rfl⟩
theorem fnE128 : ∀ args w, (callFunc 128 args).run Try.prog w = .ok (.enter 128 args) w := enters_of Try.func128 (by kernel_rfl) rfl
def firstBad : List ByteArray → Nat → Int
  | [], _ => -1
  | s :: l, i => if s.size != 32 then (i : Int) else firstBad l (i + 1)
theorem firstBad_lt (l : List ByteArray) : ∀ i, (l.all fun s => s.size == 32) = decide (firstBad l i < 0) := by
  induction l with
  | nil => intro i; rfl
  | cons s l ih =>
    intro i
    unfold firstBad
    by_cases h : s.size = 32
    · have h2 : (s.size != 32) = false := by simp [h]
      have h3 : (s.size == 32) = true := by simp [h]
      rw [List.all_cons, h3, Bool.true_and, ih (i + 1), h2]
      simp
    · have h2 : (s.size != 32) = true := by simp [h]
      have h3 : (s.size == 32) = false := by simp [h]
      rw [List.all_cons, h3, h2]
      simp
      try omega
set_option maxRecDepth 100000 in
set_option maxHeartbeats 2000000 in
theorem ixBad_c (A : Option Addr) (c : Nat) (l : List ByteArray) (w : World) (hl : l.length ≤ maxLen) (ht : Texts w A l) :
    Calls Try.prog 107 #[.slice A l.length c, .func (.func 128) #[] #[]] w fun e w2 => e = .returned (.int .i64 (firstBad l 0)) ∧ w = w2 := by
  have eg := fnE128
  have HT := Lib.hid ht
  clear ht
  unfold maxLen at hl
  obtain ⟨N, HN⟩ : ∃ N, Hid (l.length = N) := ⟨_, rfl⟩
  rw [HN.out] at hl ⊢
  go_enter Try.func107, Try.ntmps107
  go_wp2
  go_loop [5, 8] (fun _ s8 => ∃ k : Nat, k ≤ N ∧ s8 = .int .i64 k ∧ Hid (firstBad l 0 = firstBad (l.drop k) k)) (fun _ s8 => N - (intOf s8).toNat)
  case atStart => exact ⟨0, Nat.zero_le _, rfl, rfl⟩
  case round =>
    obtain ⟨k, hk, rfl, HF⟩ := hrel
    by_cases hlt : k < N
    · have hlx : k < l.length := by rw [HN.out]; exact hlt
      have hltz : (k : Int) < (N : Int) := by omega
      obtain ⟨ad, rfl, hc⟩ := HT.out k hlx
      have hd : firstBad (l.drop k) k = if l[k].size != 32 then (k : Int) else firstBad (l.drop (k + 1)) (k + 1) := by
        rw [List.drop_eq_getElem_cons hlx]; rfl
      generalize l[k] = s at hc hd
      cases hq : s.size != 32 with
      | true =>
        rw [hq, if_pos rfl] at hd
        have HF2 := Lib.hid (HF.out.trans hd)
        have hcall := notHash_c s w true hq
        clear hd hq
        go_wp2_with (go_at_fn 128; refine hcall.mono ?_; rintro e w2 ⟨rfl, rfl⟩)
        go_ret
        exact ⟨by rw [HF2.out]; rfl, rfl⟩
      | false =>
        rw [hq, if_neg (by decide)] at hd
        have HF2 := Lib.hid (HF.out.trans hd)
        have hcall := notHash_c s w false hq
        clear hd hq
        go_wp2_with (go_at_fn 128; refine hcall.mono ?_; rintro e w2 ⟨rfl, rfl⟩)
        go_round
        case rel => exact ⟨k + 1, by omega, by go_num, HF2⟩
        case measure => simp [intOf]; omega
    · have hltz : ¬ (k : Int) < (N : Int) := by omega
      obtain rfl : k = N := by omega
      have HF2 := Lib.hid (HF.out.trans (by rw [List.drop_of_length_le (by rw [HN.out]; exact Nat.le_refl _)]; rfl : firstBad (l.drop k) k = -1))
      go_wp2
      go_ret
      exact ⟨by rw [HF2.out]; rfl, rfl⟩
theorem anyBad_c (A : Option Addr) (c : Nat) (l : List ByteArray) (w : World) (hl : l.length ≤ maxLen) (ht : Texts w A l) (b : Bool) (hb : (!l.all fun s => s.size == 32) = b) :
    Calls Try.prog 79 #[.slice A l.length c, .func (.func 128) #[] #[]] w fun e w2 => e = .returned (.bool b) ∧ w2 = w := by
  have HX := Lib.hid (ixBad_c A c l w hl ht)
  have h2 := firstBad_lt l 0
  have HB := Lib.hid hb
  clear hb ht
  cases b with
  | false =>
    have h3 : 0 ≤ 0 := Nat.le_refl 0
    have hlt : firstBad l 0 < 0 := by have := HB.out; rw [h2] at this; simpa using this
    clear h2 h3
    generalize firstBad l 0 = x at HX hlt
    have hd : decide (0 ≤ x) = false := decide_eq_false (by omega)
    go_enter Try.func79, Try.ntmps79
    go_wp2_with fail
    refine HX.out.mono ?_
    rintro e w2 ⟨rfl, rfl⟩
    go_wp2
    go_ret
    exact ⟨rfl, rfl⟩
  | true =>
    have hlt : 0 ≤ firstBad l 0 := by have := HB.out; rw [h2] at this; simpa using this
    clear h2
    generalize firstBad l 0 = x at HX hlt
    go_enter Try.func79, Try.ntmps79
    go_wp2_with fail
    refine HX.out.mono ?_
    rintro e w2 ⟨rfl, rfl⟩
    go_wp2
    go_ret
    exact ⟨rfl, rfl⟩

theorem texts_of {w : World} {A : Option Addr} {l : List ByteArray} (h : Kd.C Kd.string w A l.length l) : Texts w A l := by
  intro j hj
  obtain ⟨h1, h2, h3⟩ := h
  obtain ⟨ad, rfl, h4⟩ := h3 (by omega)
  obtain ⟨c, h5, h6, h7⟩ := h4 j l[j] (List.getElem?_eq_getElem hj)
  have h8 : c = [.string l[j]] := h6
  subst h8
  refine ⟨ad, rfl, ?_⟩
  have h9 := h7 0 _ rfl
  rwa [show j * Kd.string.sz + 0 = j from Nat.mul_one j] at h9
theorem short_c (A : Option Addr) (c : Nat) (l : List ByteArray) (w : World) (hl : l.length ≤ maxLen) (ht : Texts w A l) (b : Bool) (hb : (!l.all fun s => s.size == 32) = b) :
    Calls Try.prog 108 #[.slice A l.length c] w fun e w2 => e = .returned (.bool b) ∧ w2 = w := by
  have HX := Lib.hid (anyBad_c A c l w hl ht b hb)
  clear hb ht
  go_enter Try.func108, Try.ntmps108
  go_wp2_with fail
  refine HX.out.mono ?_
  rintro e w2 ⟨rfl, rfl⟩
  go_wp2
  go_ret
  exact ⟨rfl, rfl⟩
end Go.Proofs.Ytolapikiflodfaa.Short
