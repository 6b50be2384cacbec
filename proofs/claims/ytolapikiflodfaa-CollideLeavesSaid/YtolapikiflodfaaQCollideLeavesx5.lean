import Derived.Test.YtolapikiflodfaaQCollideLeavesx0
import Derived.Test.YtolapikiflodfaaQCollideLeavesx3
import Derived.Test.YtolapikiflodfaaQCollideLeavesx4
import Derived.Test.YtolapikiflodfaaHs
namespace Go.Proofs.Ytolapikiflodfaa.PCollideLeaves
open Go.RowKit Go.Proofs.YtolapikiflodfaaW.PrintWords Go.Proofs.YtolapikiflodfaaW.PrintLast Go.Proofs.YtolapikiflodfaaW.PrintMore
attribute [local go_sem] max2_int min2_int max_two min_two max_three min_three max_four min_four   -- for this text's walks alone
set_option linter.unusedVariables false
set_option linter.unusedSimpArgs false

/-! ### collide_opened: function 95 -/
mutual
def collide_opened.j0 : Nat → Go.Proofs.Ytolapikiflodfaa.Hsh.Hs → Bool → ByteArray → Int → Int → List ByteArray → Option ((List (S157)))
  | 0, _, _, _, _, _, _ => none
  | k + 1, x0, x34, x117000, x117001, x117002, x117003 => if x34 = true then (some ([] : List (S157))) else ((collide_path.f k x117001 x117002).bind fun t118 => (if (t118.length : Int) = (wrap64 ((x117003.length : Int) + 1)) then (if 1 + x117000.size ≤ 9223372036854775807 then (if 0 ≤ (wrap64 ((t118.length : Int) - 1)) then (if (wrap64 ((t118.length : Int) - 1)) < (t118.length : Int) then (collide_opened.l0 k x0 (t118.set ((wrap64 ((t118.length : Int) - 1)) : Int).toNat (⟨(rd_T157 t118 (wrap64 ((t118.length : Int) - 1))).f0, (rd_T157 t118 (wrap64 ((t118.length : Int) - 1))).f1, (⟨#[0]⟩ : ByteArray) ++ x117000⟩ : S157)) (wrap64 ((t118.length : Int) - 1)) (wrap64 ((wrap64 ((t118.length : Int) - 1)) - 1)) x117000 x117001 x117002 x117003) else (none)) else (none)) else (none)) else (some ([] : List (S157)))))
def collide_opened.l0 : Nat → Go.Proofs.Ytolapikiflodfaa.Hsh.Hs → List (S157) → Int → Int → ByteArray → Int → Int → List ByteArray → Option ((List (S157)))
  | 0, _, _, _, _, _, _, _, _ => none
  | k + 1, x0, x5, x6, x7, x117000, x117001, x117002, x117003 => if x7 ≥ 0 then (if 0 ≤ (wrap64 (x7 + 1)) then (if (wrap64 (x7 + 1)) < (x5.length : Int) then ((Go.Proofs.Ytolapikiflodfaa.Hsh.hs_call.f x0 ((rd_T157 x5 (wrap64 (x7 + 1))).f2)).bind fun t123 => (if 0 ≤ (wrap64 ((wrap64 (x6 - 1)) - x7)) then (if (wrap64 ((wrap64 (x6 - 1)) - x7)) < (x117003.length : Int) then (if 0 ≤ x7 then (if x7 < (x5.length : Int) then (if ((rd_T157 x5 (wrap64 (x7 + 1))).f0) = ((rd_T157 x5 x7).f0) then (if 1 + t123.size ≤ 9223372036854775807 then (if ((⟨#[1]⟩ : ByteArray) ++ t123).size + (rdOf ByteArray.empty x117003 (wrap64 ((wrap64 (x6 - 1)) - x7))).size ≤ 9223372036854775807 then (collide_opened.l0 k x0 (x5.set (x7 : Int).toNat (⟨(rd_T157 x5 x7).f0, (rd_T157 x5 x7).f1, ((⟨#[1]⟩ : ByteArray) ++ t123) ++ (rdOf ByteArray.empty x117003 (wrap64 ((wrap64 (x6 - 1)) - x7)))⟩ : S157)) x6 (wrap64 (x7 - 1)) x117000 x117001 x117002 x117003) else (none)) else (none)) else (if 1 + (rdOf ByteArray.empty x117003 (wrap64 ((wrap64 (x6 - 1)) - x7))).size ≤ 9223372036854775807 then (if ((⟨#[1]⟩ : ByteArray) ++ (rdOf ByteArray.empty x117003 (wrap64 ((wrap64 (x6 - 1)) - x7)))).size + t123.size ≤ 9223372036854775807 then (collide_opened.l0 k x0 (x5.set (x7 : Int).toNat (⟨(rd_T157 x5 x7).f0, (rd_T157 x5 x7).f1, ((⟨#[1]⟩ : ByteArray) ++ (rdOf ByteArray.empty x117003 (wrap64 ((wrap64 (x6 - 1)) - x7)))) ++ t123⟩ : S157)) x6 (wrap64 (x7 - 1)) x117000 x117001 x117002 x117003) else (none)) else (none))) else (none)) else (none)) else (none)) else (none))) else (none)) else (none)) else (some x5)
end
def collide_opened.f (k : Nat) (a0 : Go.Proofs.Ytolapikiflodfaa.Hsh.Hs) (a1_0 : ByteArray) (a1_1 : Int) (a1_2 : Int) (l1_3 : List ByteArray) : Option ((List (S157))) := if a1_2 < 1 then (collide_opened.j0 k a0 true a1_0 a1_1 a1_2 l1_3) else (if a1_2 > 1048576 then (collide_opened.j0 k a0 true a1_0 a1_1 a1_2 l1_3) else (if a1_1 < 0 then (collide_opened.j0 k a0 true a1_0 a1_1 a1_2 l1_3) else (if a1_1 ≥ a1_2 then (collide_opened.j0 k a0 true a1_0 a1_1 a1_2 l1_3) else ((collide_short.f l1_3).bind fun t117 => (collide_opened.j0 k a0 t117 a1_0 a1_1 a1_2 l1_3)))))
theorem collide_opened.mono_l : ∀ k, (∀ y0 y1 y2 y3 y4 y5, LeO (collide_opened.j0 k y0 y1 y2 y3 y4 y5) (collide_opened.j0 (k + 1) y0 y1 y2 y3 y4 y5)) ∧ (∀ y0 y1 y2 y3 y4 y5 y6 y7, LeO (collide_opened.l0 k y0 y1 y2 y3 y4 y5 y6 y7) (collide_opened.l0 (k + 1) y0 y1 y2 y3 y4 y5 y6 y7))
  | 0 => ⟨fun _ _ _ _ _ _ r h => by simp [collide_opened.j0] at h, fun _ _ _ _ _ _ _ _ r h => by simp [collide_opened.l0] at h⟩
  | k + 1 => by
    obtain ⟨ih0, ih1⟩ := collide_opened.mono_l k
    refine ⟨?_, ?_⟩
    · intro y0 y1 y2 y3 y4 y5
      unfold collide_opened.j0
      repeat' first
      | (with_reducible exact ih0 _ _ _ _ _ _)
      | (with_reducible exact ih1 _ _ _ _ _ _ _ _)
      | (with_reducible exact collide_path.mono _ _ _)
      | (with_reducible exact LeO.refl _)
      | (with_reducible exact LeO.none _)
      | (with_reducible refine LeO.ite ?_ ?_)
      | (with_reducible refine LeO.bind ?_ (fun _ => ?_))
      | exact ih0 _ _ _ _ _ _
      | exact ih1 _ _ _ _ _ _ _ _
      | exact collide_path.mono _ _ _
      | exact LeO.none _
      | refine LeO.ite ?_ ?_
      | refine LeO.bind ?_ (fun _ => ?_)
    · intro y0 y1 y2 y3 y4 y5 y6 y7
      unfold collide_opened.l0
      repeat' first
      | (with_reducible exact ih0 _ _ _ _ _ _)
      | (with_reducible exact ih1 _ _ _ _ _ _ _ _)
      | (with_reducible exact collide_path.mono _ _ _)
      | (with_reducible exact LeO.refl _)
      | (with_reducible exact LeO.none _)
      | (with_reducible refine LeO.ite ?_ ?_)
      | (with_reducible refine LeO.bind ?_ (fun _ => ?_))
      | exact ih0 _ _ _ _ _ _
      | exact ih1 _ _ _ _ _ _ _ _
      | exact collide_path.mono _ _ _
      | exact LeO.none _
      | refine LeO.ite ?_ ?_
      | refine LeO.bind ?_ (fun _ => ?_)
theorem collide_opened.mono : ∀ a0 a1 a2 a3 a4 k, LeO (collide_opened.f k a0 a1 a2 a3 a4) (collide_opened.f (k + 1) a0 a1 a2 a3 a4) := by
  intro a0 a1 a2 a3 a4 k
  obtain ⟨ih0, ih1⟩ := collide_opened.mono_l k
  unfold collide_opened.f
  repeat' first
      | (with_reducible exact ih0 _ _ _ _ _ _)
      | (with_reducible exact ih1 _ _ _ _ _ _ _ _)
      | (with_reducible exact collide_path.mono _ _ _)
      | (with_reducible exact LeO.refl _)
      | (with_reducible exact LeO.none _)
      | (with_reducible refine LeO.ite ?_ ?_)
      | (with_reducible refine LeO.bind ?_ (fun _ => ?_))
      | exact ih0 _ _ _ _ _ _
      | exact ih1 _ _ _ _ _ _ _ _
      | exact collide_path.mono _ _ _
      | exact LeO.none _
      | refine LeO.ite ?_ ?_
      | refine LeO.bind ?_ (fun _ => ?_)
def collide_opened.T11 : Bool × List (List Nat × List Nat) := (true, [([], []), ([], []), ([], []), ([2], [2]), ([1, 3], [1, 3]), ([4], [4]), ([5], [5]), ([0, 6], [0, 6]), ([], []), ([8], [8]), ([], []), ([10], [10]), ([], []), ([11, 12], [11, 12]), ([9, 13], [9, 13]), ([14], [14]), ([7, 7, 0, 1, 2, 3, 4, 5, 6, 7], [7]), ([15, 16, 0, 1, 2, 3, 4, 5, 6, 7, 8, 9, 10, 11, 12, 13, 14, 15, 16], [15])])
def collide_opened.B11 : List Nat := [0, 0, 0, 4, 14, 30, 62, 127, 0, 256, 0, 1024, 0, 7168, 16128, 32512, 255, 131071]
theorem collide_opened.tab11 : rtab .any (opsOf Try.f95 11) = collide_opened.T11 := by kernel_rfl
theorem collide_opened.bits11 : waitsOk collide_opened.T11.2 collide_opened.B11 = true := by kernel_rfl
def collide_opened.T12 : Bool × List (List Nat × List Nat) := (true, [([], []), ([], []), ([1], [1]), ([0, 2], [0, 2]), ([3], [3]), ([4], [4]), ([], []), ([], []), ([6, 7], [6, 7]), ([8], [8]), ([9], [9]), ([5, 10], [5, 10])])
def collide_opened.B12 : List Nat := [0, 0, 2, 7, 15, 31, 0, 0, 192, 448, 960, 2047]
theorem collide_opened.tab12 : rtab .any (opsOf Try.f95 12) = collide_opened.T12 := by kernel_rfl
theorem collide_opened.bits12 : waitsOk collide_opened.T12.2 collide_opened.B12 = true := by kernel_rfl
set_option maxHeartbeats 8000000 in
set_option maxRecDepth 100000 in
theorem collide_opened.calls (k : Nat) (a0 : Go.Proofs.Ytolapikiflodfaa.Hsh.Hs) (a1_0 : ByteArray) (a1_1 : Int) (a1_2 : Int) (A1_3 : Option Addr) (c1_3 : Nat) (l1_3 : List ByteArray) (r : List (S157)) (w : World) (hr1_3 : Kd.C Kd.string w A1_3 l1_3.length l1_3) (hc1_3 : l1_3.length ≤ c1_3) (h : collide_opened.f k a0 a1_0 a1_1 a1_2 l1_3 = some r) :
    Calls Try.prog 95 #[.func (.func (a0).id) #[] #[], .agg #[.string a1_0, .int .i64 a1_1, .int .i64 a1_2, .slice A1_3 l1_3.length c1_3]] w fun e w' => ∃ v0_ : Value, e = .returned (v0_) ∧ Kd.R k157 157 w' w.heap.size (fun _ => True) v0_ r ∧ Below w.heap.size w w' := by
  have hu32 := Try.underlying32
  have HR1_3 := Aside0.mk hr1_3
  have HC1_3 := Aside0.mk hc1_3
  clear hr1_3 hc1_3
  have HB := Aside0.mk (Below.refl w.heap.size w)
  have H : (if a1_2 < 1 then (collide_opened.j0 k a0 true a1_0 a1_1 a1_2 l1_3) else (if a1_2 > 1048576 then (collide_opened.j0 k a0 true a1_0 a1_1 a1_2 l1_3) else (if a1_1 < 0 then (collide_opened.j0 k a0 true a1_0 a1_1 a1_2 l1_3) else (if a1_1 ≥ a1_2 then (collide_opened.j0 k a0 true a1_0 a1_1 a1_2 l1_3) else ((collide_short.f l1_3).bind fun t117 => (collide_opened.j0 k a0 t117 a1_0 a1_1 a1_2 l1_3)))))) = some r := h
  clear h
  have HC3 := Aside0.mk H
  clear H
  go_enter Try.func95, Try.ntmps95
  go_upto_region 1 with (first | ((with_reducible refine gate_dst (N := 3) rfl ?_); refine box_event ?hg (N := 3) ?hd (cs := #[.string a1_0, .int .i64 a1_1, .int .i64 a1_2, .slice A1_3 l1_3.length c1_3]) (t := 32) ?hr ?_; (case hd => rfl); (case hg => rfl); (case hr => first | (go_simp; done) | (go_simp; rfl)); intro gb116 hg w4 hbox hb; have n0_ := Aside0.mk (below_step (by repeat (first | (with_reducible first | exact HB.out | apply below_alloc | apply pw_below_drewN | apply below_drew1) | exact HB.out)) hb); have n1_ := Aside0.mk (hbox); have n2_ := Aside0.mk ((by rw [hg]; exact (below_size (by repeat (first | (with_reducible first | exact HB.out | apply below_alloc | apply pw_below_drewN | apply below_drew1) | exact HB.out))) : w.heap.size ≤ gb116)); have n3_ := Aside0.mk ((by rw [hg]; exact (below_size (by repeat (first | (with_reducible first | exact HB.out | apply below_alloc | apply pw_below_drewN | apply below_drew1) | exact HB.out))) : w.heap.size ≤ gb116)); clear HB; have HB := n0_; have BK116 := n1_; have GW116 := n2_; have GE116 := n3_; clear n0_ n1_ n2_ n3_; clear hb hbox hg))
  (try simp only [Act.put, List.setIfInBounds_toArray, List.set_cons_zero, List.set_cons_succ])
  go_cut [34] (fun v34 wc => ∃ (kq : Nat) (x34_2 : Bool), v34 = .bool x34_2 ∧ Aside0 (collide_opened.j0 kq a0 x34_2 a1_0 a1_1 a1_2 l1_3 = some r) ∧ Aside0 (kq ≤ k) ∧ Aside0 (wc.heap[gb116]? = some (.cells #[.string a1_0, .int .i64 a1_1, .int .i64 a1_2, (.slice A1_3 l1_3.length c1_3)] 32 (0, 0))) ∧ Aside0 (Below w.heap.size w wc))
  case first =>
    have H := HC3.out
    clear HC3
    by_cases c5 : a1_2 < 1
    · rw [if_pos c5] at H
      have c5b0 : decide (a1_2 < 1) = true := decide_eq_true c5
      clear c5
      (first | rw [c5b0] | (simp only [i64_w, i32_w]; rw [c5b0]) | skip)
      have H' := Aside0.mk H
      clear H
      have hcz6_0 : w4.cell? ⟨gb116, 0, none⟩ = some (.string a1_0) := (blk_cell BK116.out 0).trans rfl
      have hcz6_1 : w4.cell? ⟨gb116, 1, none⟩ = some (.int .i64 a1_1) := (blk_cell BK116.out 1).trans rfl
      have hcz6_2 : w4.cell? ⟨gb116, 2, none⟩ = some (.int .i64 a1_2) := (blk_cell BK116.out 2).trans rfl
      have hcz6_3 : w4.cell? ⟨gb116, 3, none⟩ = some (.slice A1_3 l1_3.length c1_3) := (blk_cell BK116.out 3).trans rfl
      have hfz6_0 := blk_frozen BK116.out 0
      have hfz6_1 := blk_frozen BK116.out 1
      have hfz6_2 := blk_frozen BK116.out 2
      have hfz6_3 := blk_frozen BK116.out 3
      go_wp2
      go_meet
      case rel => exact ⟨_, (true), (by first | rfl | (simp; done) | (simp [*]; done)), H', ⟨by first | omega | exact Nat.le_refl _⟩, ⟨by (with_reducible repeat (first | refine blk_drewN ?_ _ | refine blk_drew ?_ | refine blk_alloc ?_ _)); exact BK116.out⟩, ⟨by repeat (first | (with_reducible first | exact HB.out | apply below_alloc | apply pw_below_drewN | apply below_drew1 | refine below_set ?_ GE116.out) | exact HB.out)⟩⟩
    · rw [if_neg c5] at H
      have c5b0 : decide (a1_2 < 1) = false := decide_eq_false c5
      clear c5
      (first | rw [c5b0] | (simp only [i64_w, i32_w]; rw [c5b0]) | skip)
      by_cases c7 : a1_2 > 1048576
      · rw [if_pos c7] at H
        have c7b0 : decide (1048576 < a1_2) = true := decide_eq_true c7
        clear c7
        have H' := Aside0.mk H
        clear H
        have hcz8_0 : w4.cell? ⟨gb116, 0, none⟩ = some (.string a1_0) := (blk_cell BK116.out 0).trans rfl
        have hcz8_1 : w4.cell? ⟨gb116, 1, none⟩ = some (.int .i64 a1_1) := (blk_cell BK116.out 1).trans rfl
        have hcz8_2 : w4.cell? ⟨gb116, 2, none⟩ = some (.int .i64 a1_2) := (blk_cell BK116.out 2).trans rfl
        have hcz8_3 : w4.cell? ⟨gb116, 3, none⟩ = some (.slice A1_3 l1_3.length c1_3) := (blk_cell BK116.out 3).trans rfl
        have hfz8_0 := blk_frozen BK116.out 0
        have hfz8_1 := blk_frozen BK116.out 1
        have hfz8_2 := blk_frozen BK116.out 2
        have hfz8_3 := blk_frozen BK116.out 3
        go_wp2
        go_meet
        case rel => exact ⟨_, (true), (by first | rfl | (simp; done) | (simp [*]; done)), H', ⟨by first | omega | exact Nat.le_refl _⟩, ⟨by (with_reducible repeat (first | refine blk_drewN ?_ _ | refine blk_drew ?_ | refine blk_alloc ?_ _)); exact BK116.out⟩, ⟨by repeat (first | (with_reducible first | exact HB.out | apply below_alloc | apply pw_below_drewN | apply below_drew1 | refine below_set ?_ GE116.out) | exact HB.out)⟩⟩
      · rw [if_neg c7] at H
        have c7b0 : decide (1048576 < a1_2) = false := decide_eq_false c7
        clear c7
        by_cases c9 : a1_1 < 0
        · rw [if_pos c9] at H
          have c9b0 : decide (a1_1 < 0) = true := decide_eq_true c9
          clear c9
          have H' := Aside0.mk H
          clear H
          have hcz10_0 : w4.cell? ⟨gb116, 0, none⟩ = some (.string a1_0) := (blk_cell BK116.out 0).trans rfl
          have hcz10_1 : w4.cell? ⟨gb116, 1, none⟩ = some (.int .i64 a1_1) := (blk_cell BK116.out 1).trans rfl
          have hcz10_2 : w4.cell? ⟨gb116, 2, none⟩ = some (.int .i64 a1_2) := (blk_cell BK116.out 2).trans rfl
          have hcz10_3 : w4.cell? ⟨gb116, 3, none⟩ = some (.slice A1_3 l1_3.length c1_3) := (blk_cell BK116.out 3).trans rfl
          have hfz10_0 := blk_frozen BK116.out 0
          have hfz10_1 := blk_frozen BK116.out 1
          have hfz10_2 := blk_frozen BK116.out 2
          have hfz10_3 := blk_frozen BK116.out 3
          go_wp2
          go_meet
          case rel => exact ⟨_, (true), (by first | rfl | (simp; done) | (simp [*]; done)), H', ⟨by first | omega | exact Nat.le_refl _⟩, ⟨by (with_reducible repeat (first | refine blk_drewN ?_ _ | refine blk_drew ?_ | refine blk_alloc ?_ _)); exact BK116.out⟩, ⟨by repeat (first | (with_reducible first | exact HB.out | apply below_alloc | apply pw_below_drewN | apply below_drew1 | refine below_set ?_ GE116.out) | exact HB.out)⟩⟩
        · rw [if_neg c9] at H
          have c9b0 : decide (a1_1 < 0) = false := decide_eq_false c9
          clear c9
          by_cases c11 : a1_1 ≥ a1_2
          · rw [if_pos c11] at H
            have c11b0 : decide (a1_2 ≤ a1_1) = true := decide_eq_true c11
            clear c11
            have H' := Aside0.mk H
            clear H
            have hcz12_0 : w4.cell? ⟨gb116, 0, none⟩ = some (.string a1_0) := (blk_cell BK116.out 0).trans rfl
            have hcz12_1 : w4.cell? ⟨gb116, 1, none⟩ = some (.int .i64 a1_1) := (blk_cell BK116.out 1).trans rfl
            have hcz12_2 : w4.cell? ⟨gb116, 2, none⟩ = some (.int .i64 a1_2) := (blk_cell BK116.out 2).trans rfl
            have hcz12_3 : w4.cell? ⟨gb116, 3, none⟩ = some (.slice A1_3 l1_3.length c1_3) := (blk_cell BK116.out 3).trans rfl
            have hfz12_0 := blk_frozen BK116.out 0
            have hfz12_1 := blk_frozen BK116.out 1
            have hfz12_2 := blk_frozen BK116.out 2
            have hfz12_3 := blk_frozen BK116.out 3
            go_wp2
            go_meet
            case rel => exact ⟨_, (true), (by first | rfl | (simp; done) | (simp [*]; done)), H', ⟨by first | omega | exact Nat.le_refl _⟩, ⟨by (with_reducible repeat (first | refine blk_drewN ?_ _ | refine blk_drew ?_ | refine blk_alloc ?_ _)); exact BK116.out⟩, ⟨by repeat (first | (with_reducible first | exact HB.out | apply below_alloc | apply pw_below_drewN | apply below_drew1 | refine below_set ?_ GE116.out) | exact HB.out)⟩⟩
          · rw [if_neg c11] at H
            have c11b0 : decide (a1_2 ≤ a1_1) = false := decide_eq_false c11
            clear c11
            replace H := Option.bind_eq_some_iff.mp H
            obtain ⟨t117, A130, H⟩ := H
            replace H : (collide_opened.j0 k a0 t117 a1_0 a1_1 a1_2 l1_3) = some r := H
            have A13 := Aside0.mk A130
            clear A130
            have H' := Aside0.mk H
            clear H
            have hcz14_0 : w4.cell? ⟨gb116, 0, none⟩ = some (.string a1_0) := (blk_cell BK116.out 0).trans rfl
            have hcz14_1 : w4.cell? ⟨gb116, 1, none⟩ = some (.int .i64 a1_1) := (blk_cell BK116.out 1).trans rfl
            have hcz14_2 : w4.cell? ⟨gb116, 2, none⟩ = some (.int .i64 a1_2) := (blk_cell BK116.out 2).trans rfl
            have hcz14_3 : w4.cell? ⟨gb116, 3, none⟩ = some (.slice A1_3 l1_3.length c1_3) := (blk_cell BK116.out 3).trans rfl
            have hfz14_0 := blk_frozen BK116.out 0
            have hfz14_1 := blk_frozen BK116.out 1
            have hfz14_2 := blk_frozen BK116.out 2
            have hfz14_3 := blk_frozen BK116.out 3
            go_wp2_with (first | (go_at_call 108; (with_reducible refine (collide_short.calls _ _ l1_3 t117 _ ?side1 ?side2 A13.out).mono ?_); (case side1 => repeat (first | exact (Kd.C_below HR1_3.out HB.out) | (with_reducible refine Kd.C_alloc ?_ _) | (with_reducible refine Kd.C_drewN ?_ _) | (with_reducible refine Kd.C_drew ?_))); (case side2 => exact HC1_3.out); rintro e w' ⟨rfl, ⟨nd, rfl⟩⟩))
            go_meet
            case rel => exact ⟨_, (t117), (by first | rfl | (simp; done) | (simp [*]; done)), H', ⟨by first | omega | exact Nat.le_refl _⟩, ⟨by (with_reducible repeat (first | refine blk_drewN ?_ _ | refine blk_drew ?_ | refine blk_alloc ?_ _)); exact BK116.out⟩, ⟨by repeat (first | (with_reducible first | exact HB.out | apply below_alloc | apply pw_below_drewN | apply below_drew1 | refine below_set ?_ GE116.out) | exact HB.out)⟩⟩
  case rest =>
    clear HC3
    try clear c1
    try clear p2
    try clear c5
    try clear c5b0
    try clear c7
    try clear c7b0
    try clear c9
    try clear c9b0
    try clear c11
    try clear c11b0
    try clear hcz10_0
    try clear hcz10_1
    try clear hcz10_2
    try clear hcz10_3
    try clear hcz12_0
    try clear hcz12_1
    try clear hcz12_2
    try clear hcz12_3
    try clear hcz14_0
    try clear hcz14_1
    try clear hcz14_2
    try clear hcz14_3
    try clear hcz6_0
    try clear hcz6_1
    try clear hcz6_2
    try clear hcz6_3
    try clear hcz8_0
    try clear hcz8_1
    try clear hcz8_2
    try clear hcz8_3
    try clear hfz10_0
    try clear hfz10_1
    try clear hfz10_2
    try clear hfz10_3
    try clear hfz12_0
    try clear hfz12_1
    try clear hfz12_2
    try clear hfz12_3
    try clear hfz14_0
    try clear hfz14_1
    try clear hfz14_2
    try clear hfz14_3
    try clear hfz6_0
    try clear hfz6_1
    try clear hfz6_2
    try clear hfz6_3
    try clear hfz8_0
    try clear hfz8_1
    try clear hfz8_2
    try clear hfz8_3
    obtain ⟨kq, x34_2, rfl, HA, HJ2, BK116, HB⟩ := hcut
    cases kq with
    | zero => exact absurd HA.out (by simp [collide_opened.j0])
    | succ kj2 =>
      have H := HA.out
      clear HA
      simp only [collide_opened.j0] at H
      by_cases c15 : x34_2 = true
      · subst c15
        have H1 : (some ([] : List (S157))) = some r := by rw [if_pos rfl] at H; exact H
        clear H
        have H := H1
        clear H1
        obtain rfl := Option.some.inj H
        go_wp2
        go_ret
        exact ⟨_, by first | rfl | (simp [errW_none, errW_some] <;> rfl) | (simp [*, errW_none, errW_some] <;> rfl), by first | exact Kd.R_nil _ _ _ _ _ | exact Kd.N_nil _ _ _ _ _ | exact Kd.V_nil _ _ _ _ _ | exact Kd.Q_nil _ _ _ _ _ | exact Kd.S_nil _ _ _ _ _, by repeat (first | (with_reducible first | exact HB.out | apply below_alloc | apply pw_below_drewN | apply below_drew1 | refine below_set ?_ GE116.out) | exact HB.out)⟩
      · replace c15 := Bool.eq_false_iff.mpr c15
        subst c15
        have H1 : ((collide_path.f kj2 a1_1 a1_2).bind fun t118 => (if (t118.length : Int) = (wrap64 ((l1_3.length : Int) + 1)) then (if 1 + a1_0.size ≤ 9223372036854775807 then (if 0 ≤ (wrap64 ((t118.length : Int) - 1)) then (if (wrap64 ((t118.length : Int) - 1)) < (t118.length : Int) then (collide_opened.l0 kj2 a0 (t118.set ((wrap64 ((t118.length : Int) - 1)) : Int).toNat (⟨(rd_T157 t118 (wrap64 ((t118.length : Int) - 1))).f0, (rd_T157 t118 (wrap64 ((t118.length : Int) - 1))).f1, (⟨#[0]⟩ : ByteArray) ++ a1_0⟩ : S157)) (wrap64 ((t118.length : Int) - 1)) (wrap64 ((wrap64 ((t118.length : Int) - 1)) - 1)) a1_0 a1_1 a1_2 l1_3) else (none)) else (none)) else (none)) else (some ([] : List (S157))))) = some r := by rw [if_neg (show ¬ (false = true) by decide)] at H; exact H
        clear H
        have H := H1
        clear H1
        replace H := Option.bind_eq_some_iff.mp H
        obtain ⟨t118, A160, H⟩ := H
        replace H : (if (t118.length : Int) = (wrap64 ((l1_3.length : Int) + 1)) then (if 1 + a1_0.size ≤ 9223372036854775807 then (if 0 ≤ (wrap64 ((t118.length : Int) - 1)) then (if (wrap64 ((t118.length : Int) - 1)) < (t118.length : Int) then (collide_opened.l0 kj2 a0 (t118.set ((wrap64 ((t118.length : Int) - 1)) : Int).toNat (⟨(rd_T157 t118 (wrap64 ((t118.length : Int) - 1))).f0, (rd_T157 t118 (wrap64 ((t118.length : Int) - 1))).f1, (⟨#[0]⟩ : ByteArray) ++ a1_0⟩ : S157)) (wrap64 ((t118.length : Int) - 1)) (wrap64 ((wrap64 ((t118.length : Int) - 1)) - 1)) a1_0 a1_1 a1_2 l1_3) else (none)) else (none)) else (none)) else (some ([] : List (S157)))) = some r := H
        have A16 := Aside0.mk A160
        clear A160
        by_cases c17 : (t118.length : Int) = (wrap64 ((l1_3.length : Int) + 1))
        · rw [if_pos c17] at H
          have c17b0 : ((t118.length : Int) == (wrap64 ((l1_3.length : Int) + 1))) = true := beq_iff_eq.mpr c17
          have c17b1 : ((t118.length : Int) != (wrap64 ((l1_3.length : Int) + 1))) = false := bne_eq_false_iff_eq.mpr c17
          clear c17
          by_cases c18 : 1 + a1_0.size ≤ 9223372036854775807
          · rw [if_pos c18] at H
            have c18b0 := eq_true c18
            have c18b1 : decide (1 + a1_0.size ≤ 9223372036854775807) = true := decide_eq_true c18
            try have c18b2 : (9223372036854775807 < 1 + a1_0.size) = False := eq_false (Nat.not_lt.2 c18)
            obtain ⟨ji19, hji19⟩ : ∃ j_ : Int, (wrap64 ((t118.length : Int) - 1)) = j_ := ⟨_, rfl⟩
            replace H : (if 0 ≤ (ji19) then (if (ji19) < (t118.length : Int) then (collide_opened.l0 kj2 a0 (t118.set ((ji19) : Int).toNat (⟨(rd_T157 t118 (ji19)).f0, (rd_T157 t118 (ji19)).f1, (⟨#[0]⟩ : ByteArray) ++ a1_0⟩ : S157)) ji19 (wrap64 ((ji19) - 1)) a1_0 a1_1 a1_2 l1_3) else (none)) else (none)) = some r := by first | (rw [hji19] at H; exact H) | (simp only [hji19] at H ⊢; exact H)
            (try rw [hji19] at A16)
            have hji19w : (IntKind.i64.wrap ((t118.length : Int) - 1)) = ji19 := (i64_w _).trans hji19
            by_cases c20 : 0 ≤ (ji19)
            · rw [if_pos c20] at H
              have c20b0 : decide (0 ≤ (ji19)) = true := decide_eq_true c20
              clear c20
              by_cases c21 : (ji19) < (t118.length : Int)
              · rw [if_pos c21] at H
                have c21b0 : decide ((ji19) < (t118.length : Int)) = true := decide_eq_true c21
                clear c21
                obtain ⟨y121, hy121⟩ : ∃ y_ : List (S157), y_ = (t118.set ((ji19) : Int).toNat (⟨(rd_T157 t118 (ji19)).f0, (rd_T157 t118 (ji19)).f1, (⟨#[0]⟩ : ByteArray) ++ a1_0⟩ : S157)) := ⟨_, rfl⟩
                replace H : (collide_opened.l0 kj2 a0 y121 ji19 (wrap64 ((ji19) - 1)) a1_0 a1_1 a1_2 l1_3) = some r := by first | (rw [hy121]; with_reducible exact H) | (have H2_ := (Option.bind_some _ _).symm.trans H; rw [hy121]; with_reducible exact H2_) | (have H2_ := (Option.bind_some _ _).symm.trans H; with_reducible exact H2_) | with_reducible exact H | (rw [hy121]; exact H) | exact H
                have Ny121 := Aside0.mk hy121
                clear hy121
                have H' := Aside0.mk H
                clear H
                have hcz23_0 : wc.cell? ⟨gb116, 0, none⟩ = some (.string a1_0) := (blk_cell BK116.out 0).trans rfl
                have hcz23_1 : wc.cell? ⟨gb116, 1, none⟩ = some (.int .i64 a1_1) := (blk_cell BK116.out 1).trans rfl
                have hcz23_2 : wc.cell? ⟨gb116, 2, none⟩ = some (.int .i64 a1_2) := (blk_cell BK116.out 2).trans rfl
                have hcz23_3 : wc.cell? ⟨gb116, 3, none⟩ = some (.slice A1_3 l1_3.length c1_3) := (blk_cell BK116.out 3).trans rfl
                have hfz23_0 := blk_frozen BK116.out 0
                have hfz23_1 := blk_frozen BK116.out 1
                have hfz23_2 := blk_frozen BK116.out 2
                have hfz23_3 := blk_frozen BK116.out 3
                go_wp2_with (first | ((with_reducible refine gate_callee (f := 125) rfl ?_); refine goesL_ (some 39) rfl rfl Try.func125 (by kernel_rfl) rfl #[.int .i64 a1_1, .int .i64 a1_2] rfl (by (try simp only [List.map_toArray, List.map_cons, List.map_nil]); first | done | rfl | (simp only [List.length_drop, List.length_take]; rfl)) ?_; (with_reducible refine (collide_path.calls kj2 a1_1 a1_2 t118 _ A16.out).mono ?_); rintro e w24 ⟨v119, rfl, ho0, hb⟩; refine ⟨_, rfl, ?_⟩; have n0_ := Aside0.mk (Kd.R_lower ho0 (below_size (by repeat (first | (with_reducible first | exact HB.out | apply below_alloc | apply pw_below_drewN | apply below_drew1 | refine below_set ?_ GE116.out) | exact HB.out)))); have n1_ := Aside0.mk (blk_below (g := gb116) (o := .cells #[.string a1_0, .int .i64 a1_1, .int .i64 a1_2, .slice A1_3 l1_3.length c1_3] 32 (0, 0)) (by (with_reducible repeat (first | refine blk_drewN ?_ _ | refine blk_drew ?_ | refine blk_alloc ?_ _)); exact BK116.out) hb); have n2_ := Aside0.mk (below_step (by repeat (first | (with_reducible first | exact HB.out | apply below_alloc | apply pw_below_drewN | apply below_drew1 | refine below_set ?_ GE116.out) | exact HB.out)) hb); clear BK116; clear HB; have HO120 := n0_; have BK116 := n1_; have HB := n2_; clear n0_ n1_ n2_; (try clear hb); (try clear hb2); (try clear hk); (try clear hi); (try clear ho0); obtain ⟨Ao25, co25, eo25⟩ := Kd.R_slice HO120.out; subst eo25; have hcz26_0 : w24.cell? ⟨gb116, 0, none⟩ = some (.string a1_0) := (blk_cell BK116.out 0).trans rfl; have hcz26_1 : w24.cell? ⟨gb116, 1, none⟩ = some (.int .i64 a1_1) := (blk_cell BK116.out 1).trans rfl; have hcz26_2 : w24.cell? ⟨gb116, 2, none⟩ = some (.int .i64 a1_2) := (blk_cell BK116.out 2).trans rfl; have hcz26_3 : w24.cell? ⟨gb116, 3, none⟩ = some (.slice A1_3 l1_3.length c1_3) := (blk_cell BK116.out 3).trans rfl; have hfz26_0 := blk_frozen BK116.out 0; have hfz26_1 := blk_frozen BK116.out 1; have hfz26_2 := blk_frozen BK116.out 2; have hfz26_3 := blk_frozen BK116.out 3; have p22 : 0 ≤ ((ji19) : Int) := of_decide_eq_true (by first | (with_reducible assumption) | assumption); have q22 : ((ji19) : Int) < ((t118.length : Int) : Int) := of_decide_eq_true (by first | (with_reducible assumption) | assumption); obtain ⟨go22, co22, eo22, gb22, gl22, cl22, HG22⟩ := Kd.R_form HO120.out (by omega); (first | cases eo22 | (injection eo22 with ea_ en_ ec_; (first | subst ea_ | (injection ea_ with ea_; subst ea_)); subst ec_; clear en_)); have GB22 := Aside0.mk gb22; have GG22 := Aside0.mk HG22; clear gb22 gl22 HG22; obtain ⟨ce22, hcl22, hM22, hcc22, hfr22⟩ := Kd.R_elem HO120.out z157 ((ji19) : Int) p22 q22; obtain rfl := k157_openM hM22; have hx22_0 : w24.cell? ⟨go22, ((ji19) : Int).toNat * 3, none⟩ = some (.int .i64 ((rd_T157 t118 (ji19)).f0)) := hcc22 0 _ rfl; have hx22_1 : w24.cell? ⟨go22, ((ji19) : Int).toNat * 3 + 1, none⟩ = some (.int .i64 ((rd_T157 t118 (ji19)).f1)) := hcc22 1 _ rfl; have hx22_2 : w24.cell? ⟨go22, ((ji19) : Int).toNat * 3 + 2, none⟩ = some (.string ((rd_T157 t118 (ji19)).f2)) := hcc22 2 _ rfl; have hf22_0 : w24.frozen? ⟨go22, ((ji19) : Int).toNat * 3, none⟩ = false := hfr22 0; have hf22_1 : w24.frozen? ⟨go22, ((ji19) : Int).toNat * 3 + 1, none⟩ = false := hfr22 1; have hf22_2 : w24.frozen? ⟨go22, ((ji19) : Int).toNat * 3 + 2, none⟩ = false := hfr22 2; clear hcl22 hcc22 hfr22 hM22; replace p22 := eq_true p22; replace q22 := eq_true q22; have HX27 := Aside0.mk (show Kd.R k157 157 w24 w.heap.size (fun _ => True) (.slice (some ⟨go22, 0, none⟩) t118.length co25) t118 from (by (with_reducible repeat (first | apply Kd.R_alloc | apply Kd.R_drewN | apply Kd.R_drew)); exact HO120.out)); obtain ⟨ce27, hcl27, hM27, hcc27, hfr27⟩ := Kd.R_elem HX27.out z157 ((ji19) : Int) (of_decide_eq_true (by first | (with_reducible assumption) | assumption)) (by have h_ : ((ji19) : Int) < ((t118.length : Int) : Int) := of_decide_eq_true (by first | (with_reducible assumption) | assumption); first | exact h_ | (have e_ := (Kd.R_reads' HO120.out).1; omega) | simpa using h_); obtain rfl := k157_openM hM27; have HP27 := Kd.R_seg HX27.out ((ji19) : Int) (of_decide_eq_true (by first | (with_reducible assumption) | assumption)) (by have h_ : ((ji19) : Int) < ((t118.length : Int) : Int) := of_decide_eq_true (by first | (with_reducible assumption) | assumption); first | exact h_ | (have e_ := (Kd.R_reads' HO120.out).1; omega) | simpa using h_) (seg := [.string ((⟨#[0]⟩ : ByteArray) ++ a1_0)]) (j := 2) hcl27 hcc27 (show 3 ≤ 3 from by decide) (x' := (⟨(rd_T157 t118 (ji19)).f0, (rd_T157 t118 (ji19)).f1, (⟨#[0]⟩ : ByteArray) ++ a1_0⟩ : S157)) (k157_mkM _ _ _ (⟨(rd_T157 t118 (ji19)).f0, (rd_T157 t118 (ji19)).f1, (⟨#[0]⟩ : ByteArray) ++ a1_0⟩ : S157) ) (fun _ hk => hk); have hx27_2 := hcc27 2 _ rfl; (try simp only [show (k157).sz = 3 from rfl, Nat.mul_one, Nat.add_zero] at hx27_2); have hf27_2 := hfr27 2; (try simp only [show (k157).sz = 3 from rfl, Nat.mul_one, Nat.add_zero] at hf27_2); clear hcl27 hcc27 hfr27 hM27) | ((with_reducible refine gate_store (t := 9) (p := 56) rfl ?_); refine store_event (t := 9) (p := 56) (v := ?vo_w28) (w1 := (w24.setCell ⟨go22, ((ji19) : Int).toNat * 3 + 2, none⟩ (.string ((⟨#[0]⟩ : ByteArray) ++ a1_0)))) ?hg ?ho ?hn ?hr ?_; (case ho => rfl); (case hg => rfl); (case hn => rfl); (case hr => first | (go_simp; done) | (go_simp; rfl)); intro w28 hw; have hg : w24.grownBy w28 (some go22) := (by rw [hw]; exact HP27.2); have hp_ : Kd.R k157 157 w28 w.heap.size (fun _ => True) (.slice (some ⟨go22, 0, none⟩) t118.length co25) y121 := (by rw [hw, Ny121.out]; exact HP27.1); clear HP27; have n0_ := Aside0.mk (blk_grown (g := gb116) (o := .cells #[.string a1_0, .int .i64 a1_1, .int .i64 a1_2, .slice A1_3 l1_3.length c1_3] 32 (0, 0)) (by (with_reducible repeat (first | refine blk_drewN ?_ _ | refine blk_drew ?_ | refine blk_alloc ?_ _)); exact BK116.out) hg (Kd.R_ne HO120.out BK116.out (by decide))); have n1_ := Aside0.mk (hp_); have n2_ := Aside0.mk ((by rw [hw]; exact below_set (HB.out) GB22.out : Below w.heap.size w w28)); clear BK116; clear HO120; clear HB; have BK116 := n0_; have HO120 := n1_; have HB := n2_; clear n0_ n1_ n2_; clear hg hw hp_))
                go_loopg [7] kj2 (fun kq v7 w' => ∃ (x5_2 : List (S157)) (x7_2 : Int), v7 = .int .i64 x7_2 ∧ Aside0 (collide_opened.l0 kq a0 x5_2 ji19 x7_2 a1_0 a1_1 a1_2 l1_3 = some r) ∧ Aside0 (kq ≤ kj2) ∧ Aside0 (Kd.R k157 157 w' w.heap.size (fun _ => True) (.slice (some ⟨go22, 0, none⟩) t118.length co25) x5_2) ∧ Aside0 (w'.heap[gb116]? = some (.cells #[.string a1_0, .int .i64 a1_1, .int .i64 a1_2, (.slice A1_3 l1_3.length c1_3)] 32 (0, 0))) ∧ Aside0 (Below w.heap.size w w'))
                case atStart => exact ⟨(y121), (wrap64 ((ji19) - 1)), (by first | rfl | (simp; done) | (simp only [← hji19] <;> (first | rfl | simp)) | (simp [*]; done)), H', ⟨Nat.le_refl _⟩, ⟨by (with_reducible repeat (first | apply Kd.R_alloc | apply Kd.R_drewN | apply Kd.R_drew)); exact HO120.out⟩, ⟨by (with_reducible repeat (first | refine blk_drewN ?_ _ | refine blk_drew ?_ | refine blk_alloc ?_ _)); exact BK116.out⟩, ⟨by repeat (first | (with_reducible first | exact HB.out | apply below_alloc | apply pw_below_drewN | apply below_drew1 | refine below_set ?_ GE116.out) | exact HB.out)⟩⟩
                case round =>
                  clear H'
                  try clear c1
                  try clear c2
                  try clear p2
                  try clear q2
                  try clear hx2
                  try clear hf2
                  try clear c5
                  try clear c5b0
                  try clear p6
                  try clear c7
                  try clear c7b0
                  try clear c9
                  try clear c9b0
                  try clear c11
                  try clear c11b0
                  try clear c12
                  try clear c15
                  try clear c17
                  try clear c17b0
                  try clear c17b1
                  try clear c18
                  try clear c18b0
                  try clear c18b1
                  try clear c18b2
                  try clear c20
                  try clear c20b0
                  try clear c21
                  try clear c21b0
                  try clear c22
                  try clear p22
                  try clear q22
                  try clear hx22
                  try clear hf22
                  try clear c27
                  try clear hx27
                  try clear hf27
                  try clear hcz10_0
                  try clear hcz10_1
                  try clear hcz10_2
                  try clear hcz10_3
                  try clear hcz12_0
                  try clear hcz12_1
                  try clear hcz12_2
                  try clear hcz12_3
                  try clear hcz14_0
                  try clear hcz14_1
                  try clear hcz14_2
                  try clear hcz14_3
                  try clear hcz23_0
                  try clear hcz23_1
                  try clear hcz23_2
                  try clear hcz23_3
                  try clear hcz26_0
                  try clear hcz26_1
                  try clear hcz26_2
                  try clear hcz26_3
                  try clear hcz6_0
                  try clear hcz6_1
                  try clear hcz6_2
                  try clear hcz6_3
                  try clear hcz8_0
                  try clear hcz8_1
                  try clear hcz8_2
                  try clear hcz8_3
                  try clear hfz10_0
                  try clear hfz10_1
                  try clear hfz10_2
                  try clear hfz10_3
                  try clear hfz12_0
                  try clear hfz12_1
                  try clear hfz12_2
                  try clear hfz12_3
                  try clear hfz14_0
                  try clear hfz14_1
                  try clear hfz14_2
                  try clear hfz14_3
                  try clear hfz23_0
                  try clear hfz23_1
                  try clear hfz23_2
                  try clear hfz23_3
                  try clear hfz26_0
                  try clear hfz26_1
                  try clear hfz26_2
                  try clear hfz26_3
                  try clear hfz6_0
                  try clear hfz6_1
                  try clear hfz6_2
                  try clear hfz6_3
                  try clear hfz8_0
                  try clear hfz8_1
                  try clear hfz8_2
                  try clear hfz8_3
                  try clear hx22_0
                  try clear hx22_1
                  try clear hx22_2
                  try clear hx27_2
                  try clear p2
                  try clear p22
                  try clear q22
                  obtain ⟨x5_2, x7_2, rfl, HA, HK2, HO_5, BK116, HB⟩ := hrel
                  have hl5_2 := (Kd.R_reads' HO_5.out).1
                  rw [hl5_2] at HO_5
                  (try simp only [hl5_2])
                  (try simp only [hl5_2] at BK116)
                  cases gk with
                  | zero => exact absurd HA.out (by simp [collide_opened.l0])
                  | succ k2 =>
                    have H := HA.out
                    clear HA
                    simp only [collide_opened.l0] at H
                    by_cases c29 : x7_2 ≥ 0
                    · rw [if_pos c29] at H
                      have c29b0 : decide (0 ≤ x7_2) = true := decide_eq_true c29
                      clear c29
                      obtain ⟨ji30, hji30⟩ : ∃ j_ : Int, (wrap64 (x7_2 + 1)) = j_ := ⟨_, rfl⟩
                      replace H : (if 0 ≤ (ji30) then (if (ji30) < (x5_2.length : Int) then ((Go.Proofs.Ytolapikiflodfaa.Hsh.hs_call.f a0 ((rd_T157 x5_2 (ji30)).f2)).bind fun t123 => (if 0 ≤ (wrap64 ((wrap64 (ji19 - 1)) - x7_2)) then (if (wrap64 ((wrap64 (ji19 - 1)) - x7_2)) < (l1_3.length : Int) then (if 0 ≤ x7_2 then (if x7_2 < (x5_2.length : Int) then (if ((rd_T157 x5_2 (ji30)).f0) = ((rd_T157 x5_2 x7_2).f0) then (if 1 + t123.size ≤ 9223372036854775807 then (if ((⟨#[1]⟩ : ByteArray) ++ t123).size + (rdOf ByteArray.empty l1_3 (wrap64 ((wrap64 (ji19 - 1)) - x7_2))).size ≤ 9223372036854775807 then (collide_opened.l0 k2 a0 (x5_2.set (x7_2 : Int).toNat (⟨(rd_T157 x5_2 x7_2).f0, (rd_T157 x5_2 x7_2).f1, ((⟨#[1]⟩ : ByteArray) ++ t123) ++ (rdOf ByteArray.empty l1_3 (wrap64 ((wrap64 (ji19 - 1)) - x7_2)))⟩ : S157)) ji19 (wrap64 (x7_2 - 1)) a1_0 a1_1 a1_2 l1_3) else (none)) else (none)) else (if 1 + (rdOf ByteArray.empty l1_3 (wrap64 ((wrap64 (ji19 - 1)) - x7_2))).size ≤ 9223372036854775807 then (if ((⟨#[1]⟩ : ByteArray) ++ (rdOf ByteArray.empty l1_3 (wrap64 ((wrap64 (ji19 - 1)) - x7_2)))).size + t123.size ≤ 9223372036854775807 then (collide_opened.l0 k2 a0 (x5_2.set (x7_2 : Int).toNat (⟨(rd_T157 x5_2 x7_2).f0, (rd_T157 x5_2 x7_2).f1, ((⟨#[1]⟩ : ByteArray) ++ (rdOf ByteArray.empty l1_3 (wrap64 ((wrap64 (ji19 - 1)) - x7_2)))) ++ t123⟩ : S157)) ji19 (wrap64 (x7_2 - 1)) a1_0 a1_1 a1_2 l1_3) else (none)) else (none))) else (none)) else (none)) else (none)) else (none))) else (none)) else (none)) = some r := by first | (rw [hji30] at H; exact H) | (simp only [hji30] at H ⊢; exact H)
                      have hji30w : (IntKind.i64.wrap (x7_2 + 1)) = ji30 := (i64_w _).trans hji30
                      by_cases c31 : 0 ≤ (ji30)
                      · rw [if_pos c31] at H
                        have c31b0 : decide (0 ≤ (ji30)) = true := decide_eq_true c31
                        clear c31
                        by_cases c32 : (ji30) < (x5_2.length : Int)
                        · rw [if_pos c32] at H
                          have c32b0 : decide ((ji30) < (x5_2.length : Int)) = true := decide_eq_true c32
                          clear c32
                          replace H := Option.bind_eq_some_iff.mp H
                          obtain ⟨t123, A330, H⟩ := H
                          replace H : (if 0 ≤ (wrap64 ((wrap64 (ji19 - 1)) - x7_2)) then (if (wrap64 ((wrap64 (ji19 - 1)) - x7_2)) < (l1_3.length : Int) then (if 0 ≤ x7_2 then (if x7_2 < (x5_2.length : Int) then (if ((rd_T157 x5_2 (ji30)).f0) = ((rd_T157 x5_2 x7_2).f0) then (if 1 + t123.size ≤ 9223372036854775807 then (if ((⟨#[1]⟩ : ByteArray) ++ t123).size + (rdOf ByteArray.empty l1_3 (wrap64 ((wrap64 (ji19 - 1)) - x7_2))).size ≤ 9223372036854775807 then (collide_opened.l0 k2 a0 (x5_2.set (x7_2 : Int).toNat (⟨(rd_T157 x5_2 x7_2).f0, (rd_T157 x5_2 x7_2).f1, ((⟨#[1]⟩ : ByteArray) ++ t123) ++ (rdOf ByteArray.empty l1_3 (wrap64 ((wrap64 (ji19 - 1)) - x7_2)))⟩ : S157)) ji19 (wrap64 (x7_2 - 1)) a1_0 a1_1 a1_2 l1_3) else (none)) else (none)) else (if 1 + (rdOf ByteArray.empty l1_3 (wrap64 ((wrap64 (ji19 - 1)) - x7_2))).size ≤ 9223372036854775807 then (if ((⟨#[1]⟩ : ByteArray) ++ (rdOf ByteArray.empty l1_3 (wrap64 ((wrap64 (ji19 - 1)) - x7_2)))).size + t123.size ≤ 9223372036854775807 then (collide_opened.l0 k2 a0 (x5_2.set (x7_2 : Int).toNat (⟨(rd_T157 x5_2 x7_2).f0, (rd_T157 x5_2 x7_2).f1, ((⟨#[1]⟩ : ByteArray) ++ (rdOf ByteArray.empty l1_3 (wrap64 ((wrap64 (ji19 - 1)) - x7_2)))) ++ t123⟩ : S157)) ji19 (wrap64 (x7_2 - 1)) a1_0 a1_1 a1_2 l1_3) else (none)) else (none))) else (none)) else (none)) else (none)) else (none)) = some r := H
                          have A33 := Aside0.mk A330
                          clear A330
                          obtain ⟨ji34, hji34⟩ : ∃ j_ : Int, (wrap64 ((wrap64 (ji19 - 1)) - x7_2)) = j_ := ⟨_, rfl⟩
                          replace H : (if 0 ≤ (ji34) then (if (ji34) < (l1_3.length : Int) then (if 0 ≤ x7_2 then (if x7_2 < (x5_2.length : Int) then (if ((rd_T157 x5_2 (ji30)).f0) = ((rd_T157 x5_2 x7_2).f0) then (if 1 + t123.size ≤ 9223372036854775807 then (if ((⟨#[1]⟩ : ByteArray) ++ t123).size + (rdOf ByteArray.empty l1_3 (ji34)).size ≤ 9223372036854775807 then (collide_opened.l0 k2 a0 (x5_2.set (x7_2 : Int).toNat (⟨(rd_T157 x5_2 x7_2).f0, (rd_T157 x5_2 x7_2).f1, ((⟨#[1]⟩ : ByteArray) ++ t123) ++ (rdOf ByteArray.empty l1_3 (ji34))⟩ : S157)) ji19 (wrap64 (x7_2 - 1)) a1_0 a1_1 a1_2 l1_3) else (none)) else (none)) else (if 1 + (rdOf ByteArray.empty l1_3 (ji34)).size ≤ 9223372036854775807 then (if ((⟨#[1]⟩ : ByteArray) ++ (rdOf ByteArray.empty l1_3 (ji34))).size + t123.size ≤ 9223372036854775807 then (collide_opened.l0 k2 a0 (x5_2.set (x7_2 : Int).toNat (⟨(rd_T157 x5_2 x7_2).f0, (rd_T157 x5_2 x7_2).f1, ((⟨#[1]⟩ : ByteArray) ++ (rdOf ByteArray.empty l1_3 (ji34))) ++ t123⟩ : S157)) ji19 (wrap64 (x7_2 - 1)) a1_0 a1_1 a1_2 l1_3) else (none)) else (none))) else (none)) else (none)) else (none)) else (none)) = some r := by first | (rw [hji34] at H; exact H) | (simp only [hji34] at H ⊢; exact H)
                          (try rw [hji34] at A33)
                          have hji34w : (IntKind.i64.wrap ((wrap64 (ji19 - 1)) - x7_2)) = ji34 := (i64_w _).trans hji34
                          by_cases c35 : 0 ≤ (ji34)
                          · rw [if_pos c35] at H
                            have c35b0 : decide (0 ≤ (ji34)) = true := decide_eq_true c35
                            clear c35
                            by_cases c36 : (ji34) < (l1_3.length : Int)
                            · rw [if_pos c36] at H
                              have c36b0 : decide ((ji34) < (l1_3.length : Int)) = true := decide_eq_true c36
                              clear c36
                              by_cases c37 : 0 ≤ x7_2
                              · rw [if_pos c37] at H
                                have c37b0 : decide (0 ≤ x7_2) = true := decide_eq_true c37
                                clear c37
                                by_cases c38 : x7_2 < (x5_2.length : Int)
                                · rw [if_pos c38] at H
                                  have c38b0 : decide (x7_2 < (x5_2.length : Int)) = true := decide_eq_true c38
                                  clear c38
                                  by_cases c39 : ((rd_T157 x5_2 (ji30)).f0) = ((rd_T157 x5_2 x7_2).f0)
                                  · rw [if_pos c39] at H
                                    have c39b0 : (((rd_T157 x5_2 (ji30)).f0) == ((rd_T157 x5_2 x7_2).f0)) = true := beq_iff_eq.mpr c39
                                    have c39b1 : (((rd_T157 x5_2 (ji30)).f0) != ((rd_T157 x5_2 x7_2).f0)) = false := bne_eq_false_iff_eq.mpr c39
                                    clear c39
                                    by_cases c40 : 1 + t123.size ≤ 9223372036854775807
                                    · rw [if_pos c40] at H
                                      have c40b0 := eq_true c40
                                      have c40b1 : decide (1 + t123.size ≤ 9223372036854775807) = true := decide_eq_true c40
                                      try have c40b2 : (9223372036854775807 < 1 + t123.size) = False := eq_false (Nat.not_lt.2 c40)
                                      by_cases c41 : ((⟨#[1]⟩ : ByteArray) ++ t123).size + (rdOf ByteArray.empty l1_3 (ji34)).size ≤ 9223372036854775807
                                      · rw [if_pos c41] at H
                                        have c41b0 := eq_true c41
                                        have c41b1 : decide (((⟨#[1]⟩ : ByteArray) ++ t123).size + (rdOf ByteArray.empty l1_3 (ji34)).size ≤ 9223372036854775807) = true := decide_eq_true c41
                                        try have c41b2 : (9223372036854775807 < ((⟨#[1]⟩ : ByteArray) ++ t123).size + (rdOf ByteArray.empty l1_3 (ji34)).size) = False := eq_false (Nat.not_lt.2 c41)
                                        obtain ⟨y127, hy127⟩ : ∃ y_ : List (S157), y_ = (x5_2.set (x7_2 : Int).toNat (⟨(rd_T157 x5_2 x7_2).f0, (rd_T157 x5_2 x7_2).f1, ((⟨#[1]⟩ : ByteArray) ++ t123) ++ (rdOf ByteArray.empty l1_3 (ji34))⟩ : S157)) := ⟨_, rfl⟩
                                        replace H : (collide_opened.l0 k2 a0 y127 ji19 (wrap64 (x7_2 - 1)) a1_0 a1_1 a1_2 l1_3) = some r := by first | (rw [hy127]; with_reducible exact H) | (have H2_ := (Option.bind_some _ _).symm.trans H; rw [hy127]; with_reducible exact H2_) | (have H2_ := (Option.bind_some _ _).symm.trans H; with_reducible exact H2_) | with_reducible exact H | (rw [hy127]; exact H) | exact H
                                        have Ny127 := Aside0.mk hy127
                                        clear hy127
                                        have H' := Aside0.mk H
                                        clear H
                                        try go_wp2
                                        have n0_ := Aside0.mk (Kd.R_drew HO_5.out)
                                        have n1_ := Aside0.mk (blk_drew BK116.out)
                                        have n2_ := Aside0.mk (below_drew1 HB.out)
                                        clear HO_5
                                        clear BK116
                                        clear HB
                                        have HO_5 := n0_
                                        have BK116 := n1_
                                        have HB := n2_
                                        clear n0_ n1_ n2_
                                        have p122 : 0 ≤ ((ji30) : Int) := of_decide_eq_true (by first | (with_reducible assumption) | assumption)
                                        have q122 : (ji30) < (x5_2.length : Int) := of_decide_eq_true (by first | (with_reducible assumption) | assumption)
                                        obtain ⟨ad122, e122, hx122_0, hx122_1, hx122_2⟩ := at_T157 (Kd.R_reads' HO_5.out).2.2 (ji30) p122 q122
                                        obtain rfl : (⟨go22, 0, none⟩ : Addr) = ad122 := (by injection e122)
                                        (first | simp only [add_plain] at hx122_0 | simp only [add_at] at hx122_0 | simp only [Addr.add, Nat.zero_add] at hx122_0 | skip)
                                        (first | simp only [add_plain] at hx122_1 | simp only [add_at] at hx122_1 | simp only [Addr.add, Nat.zero_add] at hx122_1 | skip)
                                        (first | simp only [add_plain] at hx122_2 | simp only [add_at] at hx122_2 | simp only [Addr.add, Nat.zero_add] at hx122_2 | skip)
                                        replace p122 := eq_true p122
                                        replace q122 := eq_true q122
                                        have p124 : 0 ≤ ((ji34) : Int) := of_decide_eq_true (by first | (with_reducible assumption) | assumption)
                                        have q124 : (ji34) < (l1_3.length : Int) := of_decide_eq_true (by first | (with_reducible assumption) | assumption)
                                        obtain ⟨ad124, e124, hx124_0⟩ := Kd.at_string HR1_3.out (ji34) p124 q124
                                        have hw124_0 := hx124_0
                                        cases e124
                                        replace hx124_0 := (HB.out.cell (World.block_lt_of_cell? w _ hx124_0)).trans hx124_0
                                        replace p124 := eq_true p124
                                        replace q124 := eq_true q124
                                        refine start_ (n := 18) (S := fun w' => w'.cell? ⟨gb116, 0, none⟩ = some (.string a1_0) ∧ w'.cell? ⟨gb116, 1, none⟩ = some (.int .i64 a1_1) ∧ w'.cell? ⟨gb116, 2, none⟩ = some (.int .i64 a1_2) ∧ w'.cell? ⟨gb116, 3, none⟩ = some (.slice (some ad124) l1_3.length c1_3) ∧ w'.cell? ⟨go22, ((ji30)).toNat * 3, none⟩ = some (.int .i64 ((rd_T157 x5_2 (ji30)).f0)) ∧ w'.cell? ⟨go22, ((ji30)).toNat * 3 + 1, none⟩ = some (.int .i64 ((rd_T157 x5_2 (ji30)).f1)) ∧ w'.cell? ⟨go22, ((ji30)).toNat * 3 + 2, none⟩ = some (.string ((rd_T157 x5_2 (ji30)).f2)) ∧ w'.cell? (ad124.add ((ji34)).toNat) = some (.string (rdOf ByteArray.empty l1_3 (ji34)))) (ds := []) #[false, false, false, false, false, false, false, false, false, false, false, false, false, false, false, false, false, false] (by kernel_rfl) rfl rfl ⟨(blk_cell BK116.out 0).trans rfl, (blk_cell BK116.out 1).trans rfl, (blk_cell BK116.out 2).trans rfl, (blk_cell BK116.out 3).trans rfl, hx122_0, hx122_1, hx122_2, ((HB.out.cell (World.block_lt_of_cell? w _ hw124_0)).trans hw124_0)⟩ (fun hHeld => ?_); refine with_tabW collide_opened.tab11 collide_opened.bits11 (fun HT_ HW_ => ?_)
                                        generalize wr.drew = w43 at HO_5 BK116 HB hx122_0 hx122_1 hx122_2 hx124_0 hHeld ⊢
                                        refine pure_ (i := 0) (N := some 63) (v := ?_) (a' := ?_) #[true, false, false, false, false, false, false, false, false, false, false, false, false, false, false, false, false, false] rfl rfl (any_of HT_.out (by kernel_rfl)) (fun _ _ _ h => h) (Or.inl ⟨by rfl, ?_⟩) ?_ ?_
                                        rotate_left
                                        · intro w'
                                          go_simp
                                          with_reducible rfl
                                        rotate_left
                                        · simp only [Act.put, List.setIfInBounds_toArray, List.set_cons_zero, List.set_cons_succ, i64_w, i32_w]
                                          rfl
                                        refine pure_ (i := 1) (N := some 64) (v := ?_) (a' := ?_) #[true, true, false, false, false, false, false, false, false, false, false, false, false, false, false, false, false, false] rfl rfl (any_of HT_.out (by kernel_rfl)) (fun _ _ _ h => h) (Or.inl ⟨by rfl, ?_⟩) ?_ ?_
                                        rotate_left
                                        · intro w'
                                          go_simp
                                          with_reducible rfl
                                        rotate_left
                                        · simp only [Act.put, List.setIfInBounds_toArray, List.set_cons_zero, List.set_cons_succ, i64_w, i32_w]
                                          rfl
                                        refine pure_ (i := 2) (N := some 65) (v := ?_) (a' := ?_) #[true, true, true, false, false, false, false, false, false, false, false, false, false, false, false, false, false, false] rfl rfl (any_of HT_.out (by kernel_rfl)) (fun _ _ _ h => h) (Or.inl ⟨by rfl, ?_⟩) ?_ ?_
                                        rotate_left
                                        · intro w'
                                          go_simp
                                          with_reducible rfl
                                        rotate_left
                                        · simp only [Act.put, List.setIfInBounds_toArray, List.set_cons_zero, List.set_cons_succ, i64_w, i32_w]
                                          rfl
                                        refine pure_ (i := 3) (N := some 66) (v := ?_) (a' := ?_) #[true, true, true, true, false, false, false, false, false, false, false, false, false, false, false, false, false, false] rfl rfl (any_of HT_.out (by kernel_rfl)) (fun _ _ _ h => h) (Or.inl ⟨by rfl, ?_⟩) ?_ ?_
                                        rotate_left
                                        · intro w'
                                          go_simp
                                          with_reducible rfl
                                        rotate_left
                                        · simp only [Act.put, List.setIfInBounds_toArray, List.set_cons_zero, List.set_cons_succ, i64_w, i32_w]
                                          rfl
                                        refine pure_ (i := 4) (N := some 67) (v := ?_) (a' := ?_) #[true, true, true, true, true, false, false, false, false, false, false, false, false, false, false, false, false, false] rfl rfl (any_of HT_.out (by kernel_rfl)) (fun _ _ _ h => h) (Or.inl ⟨by rfl, ?_⟩) ?_ ?_
                                        rotate_left
                                        · intro w'
                                          go_simp
                                          with_reducible rfl
                                        rotate_left
                                        · simp only [Act.put, List.setIfInBounds_toArray, List.set_cons_zero, List.set_cons_succ, i64_w, i32_w]
                                          rfl
                                        refine pure_ (i := 5) (N := some 68) (v := ?_) (a' := ?_) #[true, true, true, true, true, true, false, false, false, false, false, false, false, false, false, false, false, false] rfl rfl (any_of HT_.out (by kernel_rfl)) (fun _ _ _ h => h) (Or.inl ⟨by rfl, ?_⟩) ?_ ?_
                                        rotate_left
                                        · intro w'
                                          go_simp
                                          with_reducible rfl
                                        rotate_left
                                        · simp only [Act.put, List.setIfInBounds_toArray, List.set_cons_zero, List.set_cons_succ, i64_w, i32_w]
                                          rfl
                                        refine pure_ (i := 8) (N := some 71) (v := ?_) (a' := ?_) #[true, true, true, true, true, true, false, false, true, false, false, false, false, false, false, false, false, false] rfl rfl (any_of HT_.out (by kernel_rfl)) (fun _ _ _ h => h) (Or.inl ⟨by rfl, ?_⟩) ?_ ?_
                                        rotate_left
                                        · intro w'
                                          go_simp
                                          with_reducible rfl
                                        rotate_left
                                        · simp only [Act.put, List.setIfInBounds_toArray, List.set_cons_zero, List.set_cons_succ, i64_w, i32_w]
                                          rfl
                                        refine pure_ (i := 10) (N := some 73) (v := ?_) (a' := ?_) #[true, true, true, true, true, true, false, false, true, false, true, false, false, false, false, false, false, false] rfl rfl (any_of HT_.out (by kernel_rfl)) (fun _ _ _ h => h) (Or.inl ⟨by rfl, ?_⟩) ?_ ?_
                                        rotate_left
                                        · intro w'
                                          go_simp
                                          with_reducible rfl
                                        rotate_left
                                        · simp only [Act.put, List.setIfInBounds_toArray, List.set_cons_zero, List.set_cons_succ, i64_w, i32_w]
                                          rfl
                                        refine pure_ (i := 11) (N := some 74) (v := ?_) (a' := ?_) #[true, true, true, true, true, true, false, false, true, false, true, true, false, false, false, false, false, false] rfl rfl (any_of HT_.out (by kernel_rfl)) (fun _ _ _ h => h) (Or.inl ⟨by rfl, ?_⟩) ?_ ?_
                                        rotate_left
                                        · intro w'
                                          go_simp
                                          with_reducible rfl
                                        rotate_left
                                        · simp only [Act.put, List.setIfInBounds_toArray, List.set_cons_zero, List.set_cons_succ, i64_w, i32_w]
                                          rfl
                                        refine pure_ (i := 12) (N := some 75) (v := ?_) (a' := ?_) #[true, true, true, true, true, true, false, false, true, false, true, true, true, false, false, false, false, false] rfl rfl (any_of HT_.out (by kernel_rfl)) (fun _ _ _ h => h) (Or.inl ⟨by rfl, ?_⟩) ?_ ?_
                                        rotate_left
                                        · intro w'
                                          go_simp
                                          with_reducible rfl
                                        rotate_left
                                        · simp only [Act.put, List.setIfInBounds_toArray, List.set_cons_zero, List.set_cons_succ, i64_w, i32_w]
                                          rfl
                                        refine pure_ (i := 13) (N := some 76) (v := ?_) (a' := ?_) #[true, true, true, true, true, true, false, false, true, false, true, true, true, true, false, false, false, false] rfl rfl (any_of HT_.out (by kernel_rfl)) (fun _ _ _ h => h) (Or.inl ⟨by rfl, ?_⟩) ?_ ?_
                                        rotate_left
                                        · intro w'
                                          go_simp
                                          with_reducible rfl
                                        rotate_left
                                        · simp only [Act.put, List.setIfInBounds_toArray, List.set_cons_zero, List.set_cons_succ, i64_w, i32_w]
                                          rfl
                                        refine take_ (i := 6) (N := some 69) (v := ?_) (a' := ?_) #[true, true, true, true, true, true, true, false, true, false, true, true, true, true, false, false, false, false] rfl rfl (take_ofW HT_.out HW_.out (by kernel_rfl)) (fun _ _ _ h => h) (Or.inl ⟨by rfl, ?_⟩) hHeld ?_ ?_
                                        rotate_left
                                        · rintro w' ⟨s0, s1, s2, s3, s4, s5, s6, s7⟩
                                          go_simp
                                          with_reducible rfl
                                        rotate_left
                                        · simp only [Act.put, List.setIfInBounds_toArray, List.set_cons_zero, List.set_cons_succ, i64_w, i32_w]
                                          rfl
                                        refine take_ (i := 9) (N := some 72) (v := ?_) (a' := ?_) #[true, true, true, true, true, true, true, false, true, true, true, true, true, true, false, false, false, false] rfl rfl (take_ofW HT_.out HW_.out (by kernel_rfl)) (fun _ _ _ h => h) (Or.inl ⟨by rfl, ?_⟩) hHeld ?_ ?_
                                        rotate_left
                                        · rintro w' ⟨s0, s1, s2, s3, s4, s5, s6, s7⟩
                                          go_simp
                                          with_reducible rfl
                                        rotate_left
                                        · simp only [Act.put, List.setIfInBounds_toArray, List.set_cons_zero, List.set_cons_succ, i64_w, i32_w]
                                          rfl
                                        refine pure_ (i := 14) (N := some 77) (v := ?_) (a' := ?_) #[true, true, true, true, true, true, true, false, true, true, true, true, true, true, true, false, false, false] rfl rfl (any_of HT_.out (by kernel_rfl)) (fun _ _ _ h => h) (Or.inl ⟨by rfl, ?_⟩) ?_ ?_
                                        rotate_left
                                        · intro w'
                                          go_simp
                                          with_reducible rfl
                                        rotate_left
                                        · simp only [Act.put, List.setIfInBounds_toArray, List.set_cons_zero, List.set_cons_succ, i64_w, i32_w]
                                          rfl
                                        refine take_ (i := 15) (N := some 78) (v := ?_) (a' := ?_) #[true, true, true, true, true, true, true, false, true, true, true, true, true, true, true, true, false, false] rfl rfl (take_ofW HT_.out HW_.out (by kernel_rfl)) (fun _ _ _ h => h) (Or.inl ⟨by rfl, ?_⟩) hHeld ?_ ?_
                                        rotate_left
                                        · rintro w' ⟨s0, s1, s2, s3, s4, s5, s6, s7⟩
                                          go_simp
                                          with_reducible rfl
                                        rotate_left
                                        · simp only [Act.put, List.setIfInBounds_toArray, List.set_cons_zero, List.set_cons_succ, i64_w, i32_w]
                                          rfl
                                        refine one_ (i := 7) (N := some 70) #[true, true, true, true, true, true, true, true, true, true, true, true, true, true, true, true, false, false] rfl rfl (one_of HT_.out (by kernel_rfl)) (by decide) (fun K hK => ?_)
                                        refine Go.Proofs.Ytolapikiflodfaa.Hsh.goesv_ (h := a0) rfl #[.string ((rd_T157 x5_2 (ji30)).f2)] (by rfl) rfl rfl (by (try simp only [List.map_toArray, List.map_cons, List.map_nil]); first | done | (simp only [hji30]; rfl) | rfl | (simp only [List.length_drop, List.length_take]; rfl)) ?_
                                        with_reducible refine (Go.Proofs.Ytolapikiflodfaa.Hsh.hs_call.calls a0 ((rd_T157 x5_2 (ji30)).f2) t123 _ A33.out).mono ?_
                                        rintro e w44 ⟨rfl, hb⟩
                                        have HS4_ := (hb.cell (World.block_lt_of_cell? _ _ (hHeld.2.2.2.2.1))).trans (hHeld.2.2.2.2.1)
                                        have HS5_ := (hb.cell (World.block_lt_of_cell? _ _ (hHeld.2.2.2.2.2.1))).trans (hHeld.2.2.2.2.2.1)
                                        have HS6_ := (hb.cell (World.block_lt_of_cell? _ _ (hHeld.2.2.2.2.2.2.1))).trans (hHeld.2.2.2.2.2.2.1)
                                        refine ⟨_, rfl, ?_⟩
                                        have n0_ := Aside0.mk (Kd.R_below (by (with_reducible repeat (first | apply Kd.R_alloc | apply Kd.R_drewN | apply Kd.R_drew)); exact HO_5.out) hb)
                                        have n1_ := Aside0.mk (blk_below (g := gb116) (o := .cells #[.string a1_0, .int .i64 a1_1, .int .i64 a1_2, .slice (some ad124) l1_3.length c1_3] 32 (0, 0)) (by (with_reducible repeat (first | refine blk_drewN ?_ _ | refine blk_drew ?_ | refine blk_alloc ?_ _)); exact BK116.out) hb)
                                        have n2_ := Aside0.mk (below_step (by repeat (first | (with_reducible first | exact HB.out | apply below_alloc | apply pw_below_drewN | apply below_drew1 | refine below_set ?_ GE116.out) | exact HB.out)) hb)
                                        clear HO_5
                                        clear BK116
                                        clear HB
                                        have HO_5 := n0_
                                        have BK116 := n1_
                                        have HB := n2_
                                        clear n0_ n1_ n2_
                                        (try clear hb)
                                        (try clear hb2)
                                        (try clear hk)
                                        (try clear hi)
                                        refine hK.out _ _ ⟨(blk_cell BK116.out 0).trans rfl, (blk_cell BK116.out 1).trans rfl, (blk_cell BK116.out 2).trans rfl, (blk_cell BK116.out 3).trans rfl, HS4_, HS5_, HS6_, ((HB.out.cell (World.block_lt_of_cell? w _ hw124_0)).trans hw124_0)⟩ (fun hHeld => ?_)
                                        clear hK K
                                        refine norm_ (a' := ?_) ?_ ?_
                                        rotate_left
                                        · show Act.put _ (some 70) _ = _
                                          simp only [Act.put, List.setIfInBounds_toArray, List.set_cons_zero, List.set_cons_succ, i64_w, i32_w]
                                          rfl
                                        refine pure_ (i := 16) (N := some 8) (v := ?_) (a' := ?_) #[true, true, true, true, true, true, true, true, true, true, true, true, true, true, true, true, true, false] rfl rfl (any_of HT_.out (by kernel_rfl)) (fun _ _ _ h => h) (Or.inl ⟨by rfl, ?_⟩) ?_ ?_
                                        rotate_left
                                        · intro w'
                                          go_simp
                                          with_reducible rfl
                                        rotate_left
                                        · simp only [Act.put, List.setIfInBounds_toArray, List.set_cons_zero, List.set_cons_succ, i64_w, i32_w]
                                          rfl
                                        refine pure_ (i := 17) (N := some 9) (v := ?_) (a' := ?_) #[true, true, true, true, true, true, true, true, true, true, true, true, true, true, true, true, true, true] rfl rfl (any_of HT_.out (by kernel_rfl)) (fun _ _ _ h => h) (Or.inl ⟨by rfl, ?_⟩) ?_ ?_
                                        rotate_left
                                        · intro w'
                                          go_simp
                                          with_reducible rfl
                                        rotate_left
                                        · simp only [Act.put, List.setIfInBounds_toArray, List.set_cons_zero, List.set_cons_succ, i64_w, i32_w]
                                          rfl
                                        refine done_ (done_of HT_.out (by kernel_rfl)) ?_
                                        try go_wp2
                                        have n0_ := Aside0.mk (Kd.R_drew HO_5.out)
                                        have n1_ := Aside0.mk (blk_drew BK116.out)
                                        have n2_ := Aside0.mk (below_drew1 HB.out)
                                        clear HO_5
                                        clear BK116
                                        clear HB
                                        have HO_5 := n0_
                                        have BK116 := n1_
                                        have HB := n2_
                                        clear n0_ n1_ n2_
                                        have p125 : 0 ≤ ((ji30) : Int) := of_decide_eq_true (by first | (with_reducible assumption) | assumption)
                                        have q125 : (ji30) < (x5_2.length : Int) := of_decide_eq_true (by first | (with_reducible assumption) | assumption)
                                        obtain ⟨ad125, e125, hx125_0, hx125_1, hx125_2⟩ := at_T157 (Kd.R_reads' HO_5.out).2.2 (ji30) p125 q125
                                        obtain rfl : (⟨go22, 0, none⟩ : Addr) = ad125 := (by injection e125)
                                        (first | simp only [add_plain] at hx125_0 | simp only [add_at] at hx125_0 | simp only [Addr.add, Nat.zero_add] at hx125_0 | skip)
                                        (first | simp only [add_plain] at hx125_1 | simp only [add_at] at hx125_1 | simp only [Addr.add, Nat.zero_add] at hx125_1 | skip)
                                        (first | simp only [add_plain] at hx125_2 | simp only [add_at] at hx125_2 | simp only [Addr.add, Nat.zero_add] at hx125_2 | skip)
                                        replace p125 := eq_true p125
                                        replace q125 := eq_true q125
                                        have p126 : 0 ≤ (x7_2 : Int) := of_decide_eq_true (by first | (with_reducible assumption) | assumption)
                                        have q126 : x7_2 < (x5_2.length : Int) := of_decide_eq_true (by first | (with_reducible assumption) | assumption)
                                        obtain ⟨ad126, e126, hx126_0, hx126_1, hx126_2⟩ := at_T157 (Kd.R_reads' HO_5.out).2.2 x7_2 p126 q126
                                        obtain rfl : (⟨go22, 0, none⟩ : Addr) = ad126 := (by injection e126)
                                        (first | simp only [add_plain] at hx126_0 | simp only [add_at] at hx126_0 | simp only [Addr.add, Nat.zero_add] at hx126_0 | skip)
                                        (first | simp only [add_plain] at hx126_1 | simp only [add_at] at hx126_1 | simp only [Addr.add, Nat.zero_add] at hx126_1 | skip)
                                        (first | simp only [add_plain] at hx126_2 | simp only [add_at] at hx126_2 | simp only [Addr.add, Nat.zero_add] at hx126_2 | skip)
                                        replace p126 := eq_true p126
                                        replace q126 := eq_true q126
                                        refine start_ (n := 12) (S := fun w' => w'.cell? ⟨go22, ((ji30)).toNat * 3, none⟩ = some (.int .i64 ((rd_T157 x5_2 (ji30)).f0)) ∧ w'.cell? ⟨go22, ((ji30)).toNat * 3 + 1, none⟩ = some (.int .i64 ((rd_T157 x5_2 (ji30)).f1)) ∧ w'.cell? ⟨go22, ((ji30)).toNat * 3 + 2, none⟩ = some (.string ((rd_T157 x5_2 (ji30)).f2)) ∧ w'.cell? ⟨go22, (x7_2).toNat * 3, none⟩ = some (.int .i64 ((rd_T157 x5_2 x7_2).f0)) ∧ w'.cell? ⟨go22, (x7_2).toNat * 3 + 1, none⟩ = some (.int .i64 ((rd_T157 x5_2 x7_2).f1)) ∧ w'.cell? ⟨go22, (x7_2).toNat * 3 + 2, none⟩ = some (.string ((rd_T157 x5_2 x7_2).f2))) (ds := []) #[false, false, false, false, false, false, false, false, false, false, false, false] (by kernel_rfl) rfl rfl ⟨hx125_0, hx125_1, hx125_2, hx126_0, hx126_1, hx126_2⟩ (fun hHeld => ?_); refine with_tabW collide_opened.tab12 collide_opened.bits12 (fun HT_ HW_ => ?_)
                                        generalize w44.drew = w45 at HO_5 BK116 HB hx125_0 hx125_1 hx125_2 hx126_0 hx126_1 hx126_2 hHeld ⊢
                                        refine pure_ (i := 0) (N := some 79) (v := ?_) (a' := ?_) #[true, false, false, false, false, false, false, false, false, false, false, false] rfl rfl (any_of HT_.out (by kernel_rfl)) (fun _ _ _ h => h) (Or.inl ⟨by rfl, ?_⟩) ?_ ?_
                                        rotate_left
                                        · intro w'
                                          go_simp
                                          with_reducible rfl
                                        rotate_left
                                        · simp only [Act.put, List.setIfInBounds_toArray, List.set_cons_zero, List.set_cons_succ, i64_w, i32_w]
                                          rfl
                                        refine pure_ (i := 1) (N := some 80) (v := ?_) (a' := ?_) #[true, true, false, false, false, false, false, false, false, false, false, false] rfl rfl (any_of HT_.out (by kernel_rfl)) (fun _ _ _ h => h) (Or.inl ⟨by rfl, ?_⟩) ?_ ?_
                                        rotate_left
                                        · intro w'
                                          go_simp
                                          with_reducible rfl
                                        rotate_left
                                        · simp only [Act.put, List.setIfInBounds_toArray, List.set_cons_zero, List.set_cons_succ, i64_w, i32_w]
                                          rfl
                                        refine pure_ (i := 2) (N := some 81) (v := ?_) (a' := ?_) #[true, true, true, false, false, false, false, false, false, false, false, false] rfl rfl (any_of HT_.out (by kernel_rfl)) (fun _ _ _ h => h) (Or.inl ⟨by rfl, ?_⟩) ?_ ?_
                                        rotate_left
                                        · intro w'
                                          go_simp
                                          with_reducible rfl
                                        rotate_left
                                        · simp only [Act.put, List.setIfInBounds_toArray, List.set_cons_zero, List.set_cons_succ, i64_w, i32_w]
                                          rfl
                                        refine pure_ (i := 3) (N := some 82) (v := ?_) (a' := ?_) #[true, true, true, true, false, false, false, false, false, false, false, false] rfl rfl (any_of HT_.out (by kernel_rfl)) (fun _ _ _ h => h) (Or.inl ⟨by rfl, ?_⟩) ?_ ?_
                                        rotate_left
                                        · intro w'
                                          go_simp
                                          with_reducible rfl
                                        rotate_left
                                        · simp only [Act.put, List.setIfInBounds_toArray, List.set_cons_zero, List.set_cons_succ, i64_w, i32_w]
                                          rfl
                                        refine pure_ (i := 4) (N := some 83) (v := ?_) (a' := ?_) #[true, true, true, true, true, false, false, false, false, false, false, false] rfl rfl (any_of HT_.out (by kernel_rfl)) (fun _ _ _ h => h) (Or.inl ⟨by rfl, ?_⟩) ?_ ?_
                                        rotate_left
                                        · intro w'
                                          go_simp
                                          with_reducible rfl
                                        rotate_left
                                        · simp only [Act.put, List.setIfInBounds_toArray, List.set_cons_zero, List.set_cons_succ, i64_w, i32_w]
                                          rfl
                                        refine pure_ (i := 6) (N := some 85) (v := ?_) (a' := ?_) #[true, true, true, true, true, false, true, false, false, false, false, false] rfl rfl (any_of HT_.out (by kernel_rfl)) (fun _ _ _ h => h) (Or.inl ⟨by rfl, ?_⟩) ?_ ?_
                                        rotate_left
                                        · intro w'
                                          go_simp
                                          with_reducible rfl
                                        rotate_left
                                        · simp only [Act.put, List.setIfInBounds_toArray, List.set_cons_zero, List.set_cons_succ, i64_w, i32_w]
                                          rfl
                                        refine pure_ (i := 7) (N := some 86) (v := ?_) (a' := ?_) #[true, true, true, true, true, false, true, true, false, false, false, false] rfl rfl (any_of HT_.out (by kernel_rfl)) (fun _ _ _ h => h) (Or.inl ⟨by rfl, ?_⟩) ?_ ?_
                                        rotate_left
                                        · intro w'
                                          go_simp
                                          with_reducible rfl
                                        rotate_left
                                        · simp only [Act.put, List.setIfInBounds_toArray, List.set_cons_zero, List.set_cons_succ, i64_w, i32_w]
                                          rfl
                                        refine pure_ (i := 8) (N := some 87) (v := ?_) (a' := ?_) #[true, true, true, true, true, false, true, true, true, false, false, false] rfl rfl (any_of HT_.out (by kernel_rfl)) (fun _ _ _ h => h) (Or.inl ⟨by rfl, ?_⟩) ?_ ?_
                                        rotate_left
                                        · intro w'
                                          go_simp
                                          with_reducible rfl
                                        rotate_left
                                        · simp only [Act.put, List.setIfInBounds_toArray, List.set_cons_zero, List.set_cons_succ, i64_w, i32_w]
                                          rfl
                                        refine pure_ (i := 9) (N := some 88) (v := ?_) (a' := ?_) #[true, true, true, true, true, false, true, true, true, true, false, false] rfl rfl (any_of HT_.out (by kernel_rfl)) (fun _ _ _ h => h) (Or.inl ⟨by rfl, ?_⟩) ?_ ?_
                                        rotate_left
                                        · intro w'
                                          go_simp
                                          with_reducible rfl
                                        rotate_left
                                        · simp only [Act.put, List.setIfInBounds_toArray, List.set_cons_zero, List.set_cons_succ, i64_w, i32_w]
                                          rfl
                                        refine take_ (i := 5) (N := some 84) (v := ?_) (a' := ?_) #[true, true, true, true, true, true, true, true, true, true, false, false] rfl rfl (take_ofW HT_.out HW_.out (by kernel_rfl)) (fun _ _ _ h => h) (Or.inl ⟨by rfl, ?_⟩) hHeld ?_ ?_
                                        rotate_left
                                        · rintro w' ⟨s0, s1, s2, s3, s4, s5⟩
                                          go_simp
                                          with_reducible rfl
                                        rotate_left
                                        · simp only [Act.put, List.setIfInBounds_toArray, List.set_cons_zero, List.set_cons_succ, i64_w, i32_w]
                                          rfl
                                        refine take_ (i := 10) (N := some 89) (v := ?_) (a' := ?_) #[true, true, true, true, true, true, true, true, true, true, true, false] rfl rfl (take_ofW HT_.out HW_.out (by kernel_rfl)) (fun _ _ _ h => h) (Or.inl ⟨by rfl, ?_⟩) hHeld ?_ ?_
                                        rotate_left
                                        · rintro w' ⟨s0, s1, s2, s3, s4, s5⟩
                                          go_simp
                                          with_reducible rfl
                                        rotate_left
                                        · simp only [Act.put, List.setIfInBounds_toArray, List.set_cons_zero, List.set_cons_succ, i64_w, i32_w]
                                          rfl
                                        refine pure_ (i := 11) (N := some 90) (v := ?_) (a' := ?_) #[true, true, true, true, true, true, true, true, true, true, true, true] rfl rfl (any_of HT_.out (by kernel_rfl)) (fun _ _ _ h => h) (Or.inl ⟨by rfl, ?_⟩) ?_ ?_
                                        rotate_left
                                        · intro w'
                                          go_simp
                                          with_reducible rfl
                                        rotate_left
                                        · simp only [Act.put, List.setIfInBounds_toArray, List.set_cons_zero, List.set_cons_succ, i64_w, i32_w]
                                          rfl
                                        refine done_ (done_of HT_.out (by kernel_rfl)) ?_
                                        have p42 : 0 ≤ (x7_2 : Int) := of_decide_eq_true (by first | (with_reducible assumption) | assumption)
                                        have q42 : (x7_2 : Int) < ((x5_2.length : Int) : Int) := of_decide_eq_true (by first | (with_reducible assumption) | assumption)
                                        obtain ⟨ce42, hcl42, hM42, hcc42, hfr42⟩ := Kd.R_elem HO_5.out z157 (x7_2 : Int) p42 q42
                                        obtain rfl := k157_openM hM42
                                        have hx42_0 : w45.cell? ⟨go22, (x7_2 : Int).toNat * 3, none⟩ = some (.int .i64 ((rd_T157 x5_2 x7_2).f0)) := hcc42 0 _ rfl
                                        have hx42_1 : w45.cell? ⟨go22, (x7_2 : Int).toNat * 3 + 1, none⟩ = some (.int .i64 ((rd_T157 x5_2 x7_2).f1)) := hcc42 1 _ rfl
                                        have hx42_2 : w45.cell? ⟨go22, (x7_2 : Int).toNat * 3 + 2, none⟩ = some (.string ((rd_T157 x5_2 x7_2).f2)) := hcc42 2 _ rfl
                                        have hf42_0 : w45.frozen? ⟨go22, (x7_2 : Int).toNat * 3, none⟩ = false := hfr42 0
                                        have hf42_1 : w45.frozen? ⟨go22, (x7_2 : Int).toNat * 3 + 1, none⟩ = false := hfr42 1
                                        have hf42_2 : w45.frozen? ⟨go22, (x7_2 : Int).toNat * 3 + 2, none⟩ = false := hfr42 2
                                        clear hcl42 hcc42 hfr42 hM42
                                        replace p42 := eq_true p42
                                        replace q42 := eq_true q42
                                        have HX46 := Aside0.mk (show Kd.R k157 157 w45 w.heap.size (fun _ => True) (.slice (some ⟨go22, 0, none⟩) x5_2.length co25) x5_2 from (by (with_reducible repeat (first | apply Kd.R_alloc | apply Kd.R_drewN | apply Kd.R_drew)); exact HO_5.out))
                                        obtain ⟨ce46, hcl46, hM46, hcc46, hfr46⟩ := Kd.R_elem HX46.out z157 (x7_2 : Int) (of_decide_eq_true (by first | (with_reducible assumption) | assumption)) (by have h_ : (x7_2 : Int) < ((x5_2.length : Int) : Int) := of_decide_eq_true (by first | (with_reducible assumption) | assumption); first | exact h_ | (have e_ := (Kd.R_reads' HO_5.out).1; omega) | simpa using h_)
                                        obtain rfl := k157_openM hM46
                                        have HP46 := Kd.R_seg HX46.out (x7_2 : Int) (of_decide_eq_true (by first | (with_reducible assumption) | assumption)) (by have h_ : (x7_2 : Int) < ((x5_2.length : Int) : Int) := of_decide_eq_true (by first | (with_reducible assumption) | assumption); first | exact h_ | (have e_ := (Kd.R_reads' HO_5.out).1; omega) | simpa using h_) (seg := [.string (((⟨#[1]⟩ : ByteArray) ++ t123) ++ (rdOf ByteArray.empty l1_3 (ji34)))]) (j := 2) hcl46 hcc46 (show 3 ≤ 3 from by decide) (x' := (⟨(rd_T157 x5_2 x7_2).f0, (rd_T157 x5_2 x7_2).f1, ((⟨#[1]⟩ : ByteArray) ++ t123) ++ (rdOf ByteArray.empty l1_3 (ji34))⟩ : S157)) (k157_mkM _ _ _ (⟨(rd_T157 x5_2 x7_2).f0, (rd_T157 x5_2 x7_2).f1, ((⟨#[1]⟩ : ByteArray) ++ t123) ++ (rdOf ByteArray.empty l1_3 (ji34))⟩ : S157) ) (fun _ hk => hk)
                                        have hx46_2 := hcc46 2 _ rfl
                                        (try simp only [show (k157).sz = 3 from rfl, Nat.mul_one, Nat.add_zero] at hx46_2)
                                        have hf46_2 := hfr46 2
                                        (try simp only [show (k157).sz = 3 from rfl, Nat.mul_one, Nat.add_zero] at hf46_2)
                                        clear hcl46 hcc46 hfr46 hM46
                                        try go_wp2_with (first | ((with_reducible refine gate_store (t := 9) (p := 98) rfl ?_); refine store_event (t := 9) (p := 98) (v := ?vo_w47) (w1 := (w45.setCell ⟨go22, (x7_2 : Int).toNat * 3 + 2, none⟩ (.string (((⟨#[1]⟩ : ByteArray) ++ t123) ++ (rdOf ByteArray.empty l1_3 (ji34)))))) ?hg ?ho ?hn ?hr ?_; (case ho => rfl); (case hg => rfl); (case hn => rfl); (case hr => first | (go_simp; done) | (go_simp; rfl)); intro w47 hw; have hg : w45.grownBy w47 (some go22) := (by rw [hw]; exact HP46.2); have hp_ : Kd.R k157 157 w47 w.heap.size (fun _ => True) (.slice (some ⟨go22, 0, none⟩) x5_2.length co25) y127 := (by rw [hw, Ny127.out]; exact HP46.1); clear HP46; have n0_ := Aside0.mk (hp_); have n1_ := Aside0.mk (blk_grown (g := gb116) (o := .cells #[.string a1_0, .int .i64 a1_1, .int .i64 a1_2, .slice (some ad124) l1_3.length c1_3] 32 (0, 0)) (by (with_reducible repeat (first | refine blk_drewN ?_ _ | refine blk_drew ?_ | refine blk_alloc ?_ _)); exact BK116.out) hg (Kd.R_ne HO_5.out BK116.out (by decide))); have n2_ := Aside0.mk ((by rw [hw]; exact below_set (HB.out) GB22.out : Below w.heap.size w w47)); clear HO_5; clear BK116; clear HB; have HO_5 := n0_; have BK116 := n1_; have HB := n2_; clear n0_ n1_ n2_; clear hg hw hp_))
                                        (try simp only [← hl5_2])
                                        go_roundg k2
                                        case measure => have := HJ2.out; have := HK2.out; omega
                                        case rel => exact ⟨(y127), (wrap64 (x7_2 - 1)), (by first | rfl | (simp; done) | (simp [*]; done)), H', ⟨by have := HJ2.out; have := HK2.out; omega⟩, ⟨by (try simp only [hl5_2]); (with_reducible repeat (first | apply Kd.R_alloc | apply Kd.R_drewN | apply Kd.R_drew)); exact HO_5.out⟩, ⟨by (try simp only [hl5_2]); (with_reducible repeat (first | refine blk_drewN ?_ _ | refine blk_drew ?_ | refine blk_alloc ?_ _)); exact BK116.out⟩, ⟨by repeat (first | (with_reducible first | exact HB.out | apply below_alloc | apply pw_below_drewN | apply below_drew1 | refine below_set ?_ GE116.out) | exact HB.out)⟩⟩
                                      · rw [if_neg c41] at H
                                        exact absurd H (by simp)
                                    · rw [if_neg c40] at H
                                      exact absurd H (by simp)
                                  · rw [if_neg c39] at H
                                    have c39b0 : (((rd_T157 x5_2 (ji30)).f0) == ((rd_T157 x5_2 x7_2).f0)) = false := beq_eq_false_iff_ne.mpr c39
                                    have c39b1 : (((rd_T157 x5_2 (ji30)).f0) != ((rd_T157 x5_2 x7_2).f0)) = true := bne_iff_ne.mpr c39
                                    by_cases c48 : 1 + (rdOf ByteArray.empty l1_3 (ji34)).size ≤ 9223372036854775807
                                    · rw [if_pos c48] at H
                                      have c48b0 := eq_true c48
                                      have c48b1 : decide (1 + (rdOf ByteArray.empty l1_3 (ji34)).size ≤ 9223372036854775807) = true := decide_eq_true c48
                                      try have c48b2 : (9223372036854775807 < 1 + (rdOf ByteArray.empty l1_3 (ji34)).size) = False := eq_false (Nat.not_lt.2 c48)
                                      by_cases c49 : ((⟨#[1]⟩ : ByteArray) ++ (rdOf ByteArray.empty l1_3 (ji34))).size + t123.size ≤ 9223372036854775807
                                      · rw [if_pos c49] at H
                                        have c49b0 := eq_true c49
                                        have c49b1 : decide (((⟨#[1]⟩ : ByteArray) ++ (rdOf ByteArray.empty l1_3 (ji34))).size + t123.size ≤ 9223372036854775807) = true := decide_eq_true c49
                                        try have c49b2 : (9223372036854775807 < ((⟨#[1]⟩ : ByteArray) ++ (rdOf ByteArray.empty l1_3 (ji34))).size + t123.size) = False := eq_false (Nat.not_lt.2 c49)
                                        obtain ⟨y128, hy128⟩ : ∃ y_ : List (S157), y_ = (x5_2.set (x7_2 : Int).toNat (⟨(rd_T157 x5_2 x7_2).f0, (rd_T157 x5_2 x7_2).f1, ((⟨#[1]⟩ : ByteArray) ++ (rdOf ByteArray.empty l1_3 (ji34))) ++ t123⟩ : S157)) := ⟨_, rfl⟩
                                        replace H : (collide_opened.l0 k2 a0 y128 ji19 (wrap64 (x7_2 - 1)) a1_0 a1_1 a1_2 l1_3) = some r := by first | (rw [hy128]; with_reducible exact H) | (have H2_ := (Option.bind_some _ _).symm.trans H; rw [hy128]; with_reducible exact H2_) | (have H2_ := (Option.bind_some _ _).symm.trans H; with_reducible exact H2_) | with_reducible exact H | (rw [hy128]; exact H) | exact H
                                        have Ny128 := Aside0.mk hy128
                                        clear hy128
                                        have H' := Aside0.mk H
                                        clear H
                                        try go_wp2
                                        have n0_ := Aside0.mk (Kd.R_drew HO_5.out)
                                        have n1_ := Aside0.mk (blk_drew BK116.out)
                                        have n2_ := Aside0.mk (below_drew1 HB.out)
                                        clear HO_5
                                        clear BK116
                                        clear HB
                                        have HO_5 := n0_
                                        have BK116 := n1_
                                        have HB := n2_
                                        clear n0_ n1_ n2_
                                        have p122 : 0 ≤ ((ji30) : Int) := of_decide_eq_true (by first | (with_reducible assumption) | assumption)
                                        have q122 : (ji30) < (x5_2.length : Int) := of_decide_eq_true (by first | (with_reducible assumption) | assumption)
                                        obtain ⟨ad122, e122, hx122_0, hx122_1, hx122_2⟩ := at_T157 (Kd.R_reads' HO_5.out).2.2 (ji30) p122 q122
                                        obtain rfl : (⟨go22, 0, none⟩ : Addr) = ad122 := (by injection e122)
                                        (first | simp only [add_plain] at hx122_0 | simp only [add_at] at hx122_0 | simp only [Addr.add, Nat.zero_add] at hx122_0 | skip)
                                        (first | simp only [add_plain] at hx122_1 | simp only [add_at] at hx122_1 | simp only [Addr.add, Nat.zero_add] at hx122_1 | skip)
                                        (first | simp only [add_plain] at hx122_2 | simp only [add_at] at hx122_2 | simp only [Addr.add, Nat.zero_add] at hx122_2 | skip)
                                        replace p122 := eq_true p122
                                        replace q122 := eq_true q122
                                        have p124 : 0 ≤ ((ji34) : Int) := of_decide_eq_true (by first | (with_reducible assumption) | assumption)
                                        have q124 : (ji34) < (l1_3.length : Int) := of_decide_eq_true (by first | (with_reducible assumption) | assumption)
                                        obtain ⟨ad124, e124, hx124_0⟩ := Kd.at_string HR1_3.out (ji34) p124 q124
                                        have hw124_0 := hx124_0
                                        cases e124
                                        replace hx124_0 := (HB.out.cell (World.block_lt_of_cell? w _ hx124_0)).trans hx124_0
                                        replace p124 := eq_true p124
                                        replace q124 := eq_true q124
                                        refine start_ (n := 18) (S := fun w' => w'.cell? ⟨gb116, 0, none⟩ = some (.string a1_0) ∧ w'.cell? ⟨gb116, 1, none⟩ = some (.int .i64 a1_1) ∧ w'.cell? ⟨gb116, 2, none⟩ = some (.int .i64 a1_2) ∧ w'.cell? ⟨gb116, 3, none⟩ = some (.slice (some ad124) l1_3.length c1_3) ∧ w'.cell? ⟨go22, ((ji30)).toNat * 3, none⟩ = some (.int .i64 ((rd_T157 x5_2 (ji30)).f0)) ∧ w'.cell? ⟨go22, ((ji30)).toNat * 3 + 1, none⟩ = some (.int .i64 ((rd_T157 x5_2 (ji30)).f1)) ∧ w'.cell? ⟨go22, ((ji30)).toNat * 3 + 2, none⟩ = some (.string ((rd_T157 x5_2 (ji30)).f2)) ∧ w'.cell? (ad124.add ((ji34)).toNat) = some (.string (rdOf ByteArray.empty l1_3 (ji34)))) (ds := []) #[false, false, false, false, false, false, false, false, false, false, false, false, false, false, false, false, false, false] (by kernel_rfl) rfl rfl ⟨(blk_cell BK116.out 0).trans rfl, (blk_cell BK116.out 1).trans rfl, (blk_cell BK116.out 2).trans rfl, (blk_cell BK116.out 3).trans rfl, hx122_0, hx122_1, hx122_2, ((HB.out.cell (World.block_lt_of_cell? w _ hw124_0)).trans hw124_0)⟩ (fun hHeld => ?_); refine with_tabW collide_opened.tab11 collide_opened.bits11 (fun HT_ HW_ => ?_)
                                        generalize wr.drew = w51 at HO_5 BK116 HB hx122_0 hx122_1 hx122_2 hx124_0 hHeld ⊢
                                        refine pure_ (i := 0) (N := some 63) (v := ?_) (a' := ?_) #[true, false, false, false, false, false, false, false, false, false, false, false, false, false, false, false, false, false] rfl rfl (any_of HT_.out (by kernel_rfl)) (fun _ _ _ h => h) (Or.inl ⟨by rfl, ?_⟩) ?_ ?_
                                        rotate_left
                                        · intro w'
                                          go_simp
                                          with_reducible rfl
                                        rotate_left
                                        · simp only [Act.put, List.setIfInBounds_toArray, List.set_cons_zero, List.set_cons_succ, i64_w, i32_w]
                                          rfl
                                        refine pure_ (i := 1) (N := some 64) (v := ?_) (a' := ?_) #[true, true, false, false, false, false, false, false, false, false, false, false, false, false, false, false, false, false] rfl rfl (any_of HT_.out (by kernel_rfl)) (fun _ _ _ h => h) (Or.inl ⟨by rfl, ?_⟩) ?_ ?_
                                        rotate_left
                                        · intro w'
                                          go_simp
                                          with_reducible rfl
                                        rotate_left
                                        · simp only [Act.put, List.setIfInBounds_toArray, List.set_cons_zero, List.set_cons_succ, i64_w, i32_w]
                                          rfl
                                        refine pure_ (i := 2) (N := some 65) (v := ?_) (a' := ?_) #[true, true, true, false, false, false, false, false, false, false, false, false, false, false, false, false, false, false] rfl rfl (any_of HT_.out (by kernel_rfl)) (fun _ _ _ h => h) (Or.inl ⟨by rfl, ?_⟩) ?_ ?_
                                        rotate_left
                                        · intro w'
                                          go_simp
                                          with_reducible rfl
                                        rotate_left
                                        · simp only [Act.put, List.setIfInBounds_toArray, List.set_cons_zero, List.set_cons_succ, i64_w, i32_w]
                                          rfl
                                        refine pure_ (i := 3) (N := some 66) (v := ?_) (a' := ?_) #[true, true, true, true, false, false, false, false, false, false, false, false, false, false, false, false, false, false] rfl rfl (any_of HT_.out (by kernel_rfl)) (fun _ _ _ h => h) (Or.inl ⟨by rfl, ?_⟩) ?_ ?_
                                        rotate_left
                                        · intro w'
                                          go_simp
                                          with_reducible rfl
                                        rotate_left
                                        · simp only [Act.put, List.setIfInBounds_toArray, List.set_cons_zero, List.set_cons_succ, i64_w, i32_w]
                                          rfl
                                        refine pure_ (i := 4) (N := some 67) (v := ?_) (a' := ?_) #[true, true, true, true, true, false, false, false, false, false, false, false, false, false, false, false, false, false] rfl rfl (any_of HT_.out (by kernel_rfl)) (fun _ _ _ h => h) (Or.inl ⟨by rfl, ?_⟩) ?_ ?_
                                        rotate_left
                                        · intro w'
                                          go_simp
                                          with_reducible rfl
                                        rotate_left
                                        · simp only [Act.put, List.setIfInBounds_toArray, List.set_cons_zero, List.set_cons_succ, i64_w, i32_w]
                                          rfl
                                        refine pure_ (i := 5) (N := some 68) (v := ?_) (a' := ?_) #[true, true, true, true, true, true, false, false, false, false, false, false, false, false, false, false, false, false] rfl rfl (any_of HT_.out (by kernel_rfl)) (fun _ _ _ h => h) (Or.inl ⟨by rfl, ?_⟩) ?_ ?_
                                        rotate_left
                                        · intro w'
                                          go_simp
                                          with_reducible rfl
                                        rotate_left
                                        · simp only [Act.put, List.setIfInBounds_toArray, List.set_cons_zero, List.set_cons_succ, i64_w, i32_w]
                                          rfl
                                        refine pure_ (i := 8) (N := some 71) (v := ?_) (a' := ?_) #[true, true, true, true, true, true, false, false, true, false, false, false, false, false, false, false, false, false] rfl rfl (any_of HT_.out (by kernel_rfl)) (fun _ _ _ h => h) (Or.inl ⟨by rfl, ?_⟩) ?_ ?_
                                        rotate_left
                                        · intro w'
                                          go_simp
                                          with_reducible rfl
                                        rotate_left
                                        · simp only [Act.put, List.setIfInBounds_toArray, List.set_cons_zero, List.set_cons_succ, i64_w, i32_w]
                                          rfl
                                        refine pure_ (i := 10) (N := some 73) (v := ?_) (a' := ?_) #[true, true, true, true, true, true, false, false, true, false, true, false, false, false, false, false, false, false] rfl rfl (any_of HT_.out (by kernel_rfl)) (fun _ _ _ h => h) (Or.inl ⟨by rfl, ?_⟩) ?_ ?_
                                        rotate_left
                                        · intro w'
                                          go_simp
                                          with_reducible rfl
                                        rotate_left
                                        · simp only [Act.put, List.setIfInBounds_toArray, List.set_cons_zero, List.set_cons_succ, i64_w, i32_w]
                                          rfl
                                        refine pure_ (i := 11) (N := some 74) (v := ?_) (a' := ?_) #[true, true, true, true, true, true, false, false, true, false, true, true, false, false, false, false, false, false] rfl rfl (any_of HT_.out (by kernel_rfl)) (fun _ _ _ h => h) (Or.inl ⟨by rfl, ?_⟩) ?_ ?_
                                        rotate_left
                                        · intro w'
                                          go_simp
                                          with_reducible rfl
                                        rotate_left
                                        · simp only [Act.put, List.setIfInBounds_toArray, List.set_cons_zero, List.set_cons_succ, i64_w, i32_w]
                                          rfl
                                        refine pure_ (i := 12) (N := some 75) (v := ?_) (a' := ?_) #[true, true, true, true, true, true, false, false, true, false, true, true, true, false, false, false, false, false] rfl rfl (any_of HT_.out (by kernel_rfl)) (fun _ _ _ h => h) (Or.inl ⟨by rfl, ?_⟩) ?_ ?_
                                        rotate_left
                                        · intro w'
                                          go_simp
                                          with_reducible rfl
                                        rotate_left
                                        · simp only [Act.put, List.setIfInBounds_toArray, List.set_cons_zero, List.set_cons_succ, i64_w, i32_w]
                                          rfl
                                        refine pure_ (i := 13) (N := some 76) (v := ?_) (a' := ?_) #[true, true, true, true, true, true, false, false, true, false, true, true, true, true, false, false, false, false] rfl rfl (any_of HT_.out (by kernel_rfl)) (fun _ _ _ h => h) (Or.inl ⟨by rfl, ?_⟩) ?_ ?_
                                        rotate_left
                                        · intro w'
                                          go_simp
                                          with_reducible rfl
                                        rotate_left
                                        · simp only [Act.put, List.setIfInBounds_toArray, List.set_cons_zero, List.set_cons_succ, i64_w, i32_w]
                                          rfl
                                        refine take_ (i := 6) (N := some 69) (v := ?_) (a' := ?_) #[true, true, true, true, true, true, true, false, true, false, true, true, true, true, false, false, false, false] rfl rfl (take_ofW HT_.out HW_.out (by kernel_rfl)) (fun _ _ _ h => h) (Or.inl ⟨by rfl, ?_⟩) hHeld ?_ ?_
                                        rotate_left
                                        · rintro w' ⟨s0, s1, s2, s3, s4, s5, s6, s7⟩
                                          go_simp
                                          with_reducible rfl
                                        rotate_left
                                        · simp only [Act.put, List.setIfInBounds_toArray, List.set_cons_zero, List.set_cons_succ, i64_w, i32_w]
                                          rfl
                                        refine take_ (i := 9) (N := some 72) (v := ?_) (a' := ?_) #[true, true, true, true, true, true, true, false, true, true, true, true, true, true, false, false, false, false] rfl rfl (take_ofW HT_.out HW_.out (by kernel_rfl)) (fun _ _ _ h => h) (Or.inl ⟨by rfl, ?_⟩) hHeld ?_ ?_
                                        rotate_left
                                        · rintro w' ⟨s0, s1, s2, s3, s4, s5, s6, s7⟩
                                          go_simp
                                          with_reducible rfl
                                        rotate_left
                                        · simp only [Act.put, List.setIfInBounds_toArray, List.set_cons_zero, List.set_cons_succ, i64_w, i32_w]
                                          rfl
                                        refine pure_ (i := 14) (N := some 77) (v := ?_) (a' := ?_) #[true, true, true, true, true, true, true, false, true, true, true, true, true, true, true, false, false, false] rfl rfl (any_of HT_.out (by kernel_rfl)) (fun _ _ _ h => h) (Or.inl ⟨by rfl, ?_⟩) ?_ ?_
                                        rotate_left
                                        · intro w'
                                          go_simp
                                          with_reducible rfl
                                        rotate_left
                                        · simp only [Act.put, List.setIfInBounds_toArray, List.set_cons_zero, List.set_cons_succ, i64_w, i32_w]
                                          rfl
                                        refine take_ (i := 15) (N := some 78) (v := ?_) (a' := ?_) #[true, true, true, true, true, true, true, false, true, true, true, true, true, true, true, true, false, false] rfl rfl (take_ofW HT_.out HW_.out (by kernel_rfl)) (fun _ _ _ h => h) (Or.inl ⟨by rfl, ?_⟩) hHeld ?_ ?_
                                        rotate_left
                                        · rintro w' ⟨s0, s1, s2, s3, s4, s5, s6, s7⟩
                                          go_simp
                                          with_reducible rfl
                                        rotate_left
                                        · simp only [Act.put, List.setIfInBounds_toArray, List.set_cons_zero, List.set_cons_succ, i64_w, i32_w]
                                          rfl
                                        refine one_ (i := 7) (N := some 70) #[true, true, true, true, true, true, true, true, true, true, true, true, true, true, true, true, false, false] rfl rfl (one_of HT_.out (by kernel_rfl)) (by decide) (fun K hK => ?_)
                                        refine Go.Proofs.Ytolapikiflodfaa.Hsh.goesv_ (h := a0) rfl #[.string ((rd_T157 x5_2 (ji30)).f2)] (by rfl) rfl rfl (by (try simp only [List.map_toArray, List.map_cons, List.map_nil]); first | done | (simp only [hji30]; rfl) | rfl | (simp only [List.length_drop, List.length_take]; rfl)) ?_
                                        with_reducible refine (Go.Proofs.Ytolapikiflodfaa.Hsh.hs_call.calls a0 ((rd_T157 x5_2 (ji30)).f2) t123 _ A33.out).mono ?_
                                        rintro e w52 ⟨rfl, hb⟩
                                        have HS4_ := (hb.cell (World.block_lt_of_cell? _ _ (hHeld.2.2.2.2.1))).trans (hHeld.2.2.2.2.1)
                                        have HS5_ := (hb.cell (World.block_lt_of_cell? _ _ (hHeld.2.2.2.2.2.1))).trans (hHeld.2.2.2.2.2.1)
                                        have HS6_ := (hb.cell (World.block_lt_of_cell? _ _ (hHeld.2.2.2.2.2.2.1))).trans (hHeld.2.2.2.2.2.2.1)
                                        refine ⟨_, rfl, ?_⟩
                                        have n0_ := Aside0.mk (Kd.R_below (by (with_reducible repeat (first | apply Kd.R_alloc | apply Kd.R_drewN | apply Kd.R_drew)); exact HO_5.out) hb)
                                        have n1_ := Aside0.mk (blk_below (g := gb116) (o := .cells #[.string a1_0, .int .i64 a1_1, .int .i64 a1_2, .slice (some ad124) l1_3.length c1_3] 32 (0, 0)) (by (with_reducible repeat (first | refine blk_drewN ?_ _ | refine blk_drew ?_ | refine blk_alloc ?_ _)); exact BK116.out) hb)
                                        have n2_ := Aside0.mk (below_step (by repeat (first | (with_reducible first | exact HB.out | apply below_alloc | apply pw_below_drewN | apply below_drew1 | refine below_set ?_ GE116.out) | exact HB.out)) hb)
                                        clear HO_5
                                        clear BK116
                                        clear HB
                                        have HO_5 := n0_
                                        have BK116 := n1_
                                        have HB := n2_
                                        clear n0_ n1_ n2_
                                        (try clear hb)
                                        (try clear hb2)
                                        (try clear hk)
                                        (try clear hi)
                                        refine hK.out _ _ ⟨(blk_cell BK116.out 0).trans rfl, (blk_cell BK116.out 1).trans rfl, (blk_cell BK116.out 2).trans rfl, (blk_cell BK116.out 3).trans rfl, HS4_, HS5_, HS6_, ((HB.out.cell (World.block_lt_of_cell? w _ hw124_0)).trans hw124_0)⟩ (fun hHeld => ?_)
                                        clear hK K
                                        refine norm_ (a' := ?_) ?_ ?_
                                        rotate_left
                                        · show Act.put _ (some 70) _ = _
                                          simp only [Act.put, List.setIfInBounds_toArray, List.set_cons_zero, List.set_cons_succ, i64_w, i32_w]
                                          rfl
                                        refine pure_ (i := 16) (N := some 8) (v := ?_) (a' := ?_) #[true, true, true, true, true, true, true, true, true, true, true, true, true, true, true, true, true, false] rfl rfl (any_of HT_.out (by kernel_rfl)) (fun _ _ _ h => h) (Or.inl ⟨by rfl, ?_⟩) ?_ ?_
                                        rotate_left
                                        · intro w'
                                          go_simp
                                          with_reducible rfl
                                        rotate_left
                                        · simp only [Act.put, List.setIfInBounds_toArray, List.set_cons_zero, List.set_cons_succ, i64_w, i32_w]
                                          rfl
                                        refine pure_ (i := 17) (N := some 9) (v := ?_) (a' := ?_) #[true, true, true, true, true, true, true, true, true, true, true, true, true, true, true, true, true, true] rfl rfl (any_of HT_.out (by kernel_rfl)) (fun _ _ _ h => h) (Or.inl ⟨by rfl, ?_⟩) ?_ ?_
                                        rotate_left
                                        · intro w'
                                          go_simp
                                          with_reducible rfl
                                        rotate_left
                                        · simp only [Act.put, List.setIfInBounds_toArray, List.set_cons_zero, List.set_cons_succ, i64_w, i32_w]
                                          rfl
                                        refine done_ (done_of HT_.out (by kernel_rfl)) ?_
                                        try go_wp2
                                        have n0_ := Aside0.mk (Kd.R_drew HO_5.out)
                                        have n1_ := Aside0.mk (blk_drew BK116.out)
                                        have n2_ := Aside0.mk (below_drew1 HB.out)
                                        clear HO_5
                                        clear BK116
                                        clear HB
                                        have HO_5 := n0_
                                        have BK116 := n1_
                                        have HB := n2_
                                        clear n0_ n1_ n2_
                                        have p125 : 0 ≤ ((ji30) : Int) := of_decide_eq_true (by first | (with_reducible assumption) | assumption)
                                        have q125 : (ji30) < (x5_2.length : Int) := of_decide_eq_true (by first | (with_reducible assumption) | assumption)
                                        obtain ⟨ad125, e125, hx125_0, hx125_1, hx125_2⟩ := at_T157 (Kd.R_reads' HO_5.out).2.2 (ji30) p125 q125
                                        obtain rfl : (⟨go22, 0, none⟩ : Addr) = ad125 := (by injection e125)
                                        (first | simp only [add_plain] at hx125_0 | simp only [add_at] at hx125_0 | simp only [Addr.add, Nat.zero_add] at hx125_0 | skip)
                                        (first | simp only [add_plain] at hx125_1 | simp only [add_at] at hx125_1 | simp only [Addr.add, Nat.zero_add] at hx125_1 | skip)
                                        (first | simp only [add_plain] at hx125_2 | simp only [add_at] at hx125_2 | simp only [Addr.add, Nat.zero_add] at hx125_2 | skip)
                                        replace p125 := eq_true p125
                                        replace q125 := eq_true q125
                                        have p126 : 0 ≤ (x7_2 : Int) := of_decide_eq_true (by first | (with_reducible assumption) | assumption)
                                        have q126 : x7_2 < (x5_2.length : Int) := of_decide_eq_true (by first | (with_reducible assumption) | assumption)
                                        obtain ⟨ad126, e126, hx126_0, hx126_1, hx126_2⟩ := at_T157 (Kd.R_reads' HO_5.out).2.2 x7_2 p126 q126
                                        obtain rfl : (⟨go22, 0, none⟩ : Addr) = ad126 := (by injection e126)
                                        (first | simp only [add_plain] at hx126_0 | simp only [add_at] at hx126_0 | simp only [Addr.add, Nat.zero_add] at hx126_0 | skip)
                                        (first | simp only [add_plain] at hx126_1 | simp only [add_at] at hx126_1 | simp only [Addr.add, Nat.zero_add] at hx126_1 | skip)
                                        (first | simp only [add_plain] at hx126_2 | simp only [add_at] at hx126_2 | simp only [Addr.add, Nat.zero_add] at hx126_2 | skip)
                                        replace p126 := eq_true p126
                                        replace q126 := eq_true q126
                                        refine start_ (n := 12) (S := fun w' => w'.cell? ⟨go22, ((ji30)).toNat * 3, none⟩ = some (.int .i64 ((rd_T157 x5_2 (ji30)).f0)) ∧ w'.cell? ⟨go22, ((ji30)).toNat * 3 + 1, none⟩ = some (.int .i64 ((rd_T157 x5_2 (ji30)).f1)) ∧ w'.cell? ⟨go22, ((ji30)).toNat * 3 + 2, none⟩ = some (.string ((rd_T157 x5_2 (ji30)).f2)) ∧ w'.cell? ⟨go22, (x7_2).toNat * 3, none⟩ = some (.int .i64 ((rd_T157 x5_2 x7_2).f0)) ∧ w'.cell? ⟨go22, (x7_2).toNat * 3 + 1, none⟩ = some (.int .i64 ((rd_T157 x5_2 x7_2).f1)) ∧ w'.cell? ⟨go22, (x7_2).toNat * 3 + 2, none⟩ = some (.string ((rd_T157 x5_2 x7_2).f2))) (ds := []) #[false, false, false, false, false, false, false, false, false, false, false, false] (by kernel_rfl) rfl rfl ⟨hx125_0, hx125_1, hx125_2, hx126_0, hx126_1, hx126_2⟩ (fun hHeld => ?_); refine with_tabW collide_opened.tab12 collide_opened.bits12 (fun HT_ HW_ => ?_)
                                        generalize w52.drew = w53 at HO_5 BK116 HB hx125_0 hx125_1 hx125_2 hx126_0 hx126_1 hx126_2 hHeld ⊢
                                        refine pure_ (i := 0) (N := some 79) (v := ?_) (a' := ?_) #[true, false, false, false, false, false, false, false, false, false, false, false] rfl rfl (any_of HT_.out (by kernel_rfl)) (fun _ _ _ h => h) (Or.inl ⟨by rfl, ?_⟩) ?_ ?_
                                        rotate_left
                                        · intro w'
                                          go_simp
                                          with_reducible rfl
                                        rotate_left
                                        · simp only [Act.put, List.setIfInBounds_toArray, List.set_cons_zero, List.set_cons_succ, i64_w, i32_w]
                                          rfl
                                        refine pure_ (i := 1) (N := some 80) (v := ?_) (a' := ?_) #[true, true, false, false, false, false, false, false, false, false, false, false] rfl rfl (any_of HT_.out (by kernel_rfl)) (fun _ _ _ h => h) (Or.inl ⟨by rfl, ?_⟩) ?_ ?_
                                        rotate_left
                                        · intro w'
                                          go_simp
                                          with_reducible rfl
                                        rotate_left
                                        · simp only [Act.put, List.setIfInBounds_toArray, List.set_cons_zero, List.set_cons_succ, i64_w, i32_w]
                                          rfl
                                        refine pure_ (i := 2) (N := some 81) (v := ?_) (a' := ?_) #[true, true, true, false, false, false, false, false, false, false, false, false] rfl rfl (any_of HT_.out (by kernel_rfl)) (fun _ _ _ h => h) (Or.inl ⟨by rfl, ?_⟩) ?_ ?_
                                        rotate_left
                                        · intro w'
                                          go_simp
                                          with_reducible rfl
                                        rotate_left
                                        · simp only [Act.put, List.setIfInBounds_toArray, List.set_cons_zero, List.set_cons_succ, i64_w, i32_w]
                                          rfl
                                        refine pure_ (i := 3) (N := some 82) (v := ?_) (a' := ?_) #[true, true, true, true, false, false, false, false, false, false, false, false] rfl rfl (any_of HT_.out (by kernel_rfl)) (fun _ _ _ h => h) (Or.inl ⟨by rfl, ?_⟩) ?_ ?_
                                        rotate_left
                                        · intro w'
                                          go_simp
                                          with_reducible rfl
                                        rotate_left
                                        · simp only [Act.put, List.setIfInBounds_toArray, List.set_cons_zero, List.set_cons_succ, i64_w, i32_w]
                                          rfl
                                        refine pure_ (i := 4) (N := some 83) (v := ?_) (a' := ?_) #[true, true, true, true, true, false, false, false, false, false, false, false] rfl rfl (any_of HT_.out (by kernel_rfl)) (fun _ _ _ h => h) (Or.inl ⟨by rfl, ?_⟩) ?_ ?_
                                        rotate_left
                                        · intro w'
                                          go_simp
                                          with_reducible rfl
                                        rotate_left
                                        · simp only [Act.put, List.setIfInBounds_toArray, List.set_cons_zero, List.set_cons_succ, i64_w, i32_w]
                                          rfl
                                        refine pure_ (i := 6) (N := some 85) (v := ?_) (a' := ?_) #[true, true, true, true, true, false, true, false, false, false, false, false] rfl rfl (any_of HT_.out (by kernel_rfl)) (fun _ _ _ h => h) (Or.inl ⟨by rfl, ?_⟩) ?_ ?_
                                        rotate_left
                                        · intro w'
                                          go_simp
                                          with_reducible rfl
                                        rotate_left
                                        · simp only [Act.put, List.setIfInBounds_toArray, List.set_cons_zero, List.set_cons_succ, i64_w, i32_w]
                                          rfl
                                        refine pure_ (i := 7) (N := some 86) (v := ?_) (a' := ?_) #[true, true, true, true, true, false, true, true, false, false, false, false] rfl rfl (any_of HT_.out (by kernel_rfl)) (fun _ _ _ h => h) (Or.inl ⟨by rfl, ?_⟩) ?_ ?_
                                        rotate_left
                                        · intro w'
                                          go_simp
                                          with_reducible rfl
                                        rotate_left
                                        · simp only [Act.put, List.setIfInBounds_toArray, List.set_cons_zero, List.set_cons_succ, i64_w, i32_w]
                                          rfl
                                        refine pure_ (i := 8) (N := some 87) (v := ?_) (a' := ?_) #[true, true, true, true, true, false, true, true, true, false, false, false] rfl rfl (any_of HT_.out (by kernel_rfl)) (fun _ _ _ h => h) (Or.inl ⟨by rfl, ?_⟩) ?_ ?_
                                        rotate_left
                                        · intro w'
                                          go_simp
                                          with_reducible rfl
                                        rotate_left
                                        · simp only [Act.put, List.setIfInBounds_toArray, List.set_cons_zero, List.set_cons_succ, i64_w, i32_w]
                                          rfl
                                        refine pure_ (i := 9) (N := some 88) (v := ?_) (a' := ?_) #[true, true, true, true, true, false, true, true, true, true, false, false] rfl rfl (any_of HT_.out (by kernel_rfl)) (fun _ _ _ h => h) (Or.inl ⟨by rfl, ?_⟩) ?_ ?_
                                        rotate_left
                                        · intro w'
                                          go_simp
                                          with_reducible rfl
                                        rotate_left
                                        · simp only [Act.put, List.setIfInBounds_toArray, List.set_cons_zero, List.set_cons_succ, i64_w, i32_w]
                                          rfl
                                        refine take_ (i := 5) (N := some 84) (v := ?_) (a' := ?_) #[true, true, true, true, true, true, true, true, true, true, false, false] rfl rfl (take_ofW HT_.out HW_.out (by kernel_rfl)) (fun _ _ _ h => h) (Or.inl ⟨by rfl, ?_⟩) hHeld ?_ ?_
                                        rotate_left
                                        · rintro w' ⟨s0, s1, s2, s3, s4, s5⟩
                                          go_simp
                                          with_reducible rfl
                                        rotate_left
                                        · simp only [Act.put, List.setIfInBounds_toArray, List.set_cons_zero, List.set_cons_succ, i64_w, i32_w]
                                          rfl
                                        refine take_ (i := 10) (N := some 89) (v := ?_) (a' := ?_) #[true, true, true, true, true, true, true, true, true, true, true, false] rfl rfl (take_ofW HT_.out HW_.out (by kernel_rfl)) (fun _ _ _ h => h) (Or.inl ⟨by rfl, ?_⟩) hHeld ?_ ?_
                                        rotate_left
                                        · rintro w' ⟨s0, s1, s2, s3, s4, s5⟩
                                          go_simp
                                          with_reducible rfl
                                        rotate_left
                                        · simp only [Act.put, List.setIfInBounds_toArray, List.set_cons_zero, List.set_cons_succ, i64_w, i32_w]
                                          rfl
                                        refine pure_ (i := 11) (N := some 90) (v := ?_) (a' := ?_) #[true, true, true, true, true, true, true, true, true, true, true, true] rfl rfl (any_of HT_.out (by kernel_rfl)) (fun _ _ _ h => h) (Or.inl ⟨by rfl, ?_⟩) ?_ ?_
                                        rotate_left
                                        · intro w'
                                          go_simp
                                          with_reducible rfl
                                        rotate_left
                                        · simp only [Act.put, List.setIfInBounds_toArray, List.set_cons_zero, List.set_cons_succ, i64_w, i32_w]
                                          rfl
                                        refine done_ (done_of HT_.out (by kernel_rfl)) ?_
                                        have p50 : 0 ≤ (x7_2 : Int) := of_decide_eq_true (by first | (with_reducible assumption) | assumption)
                                        have q50 : (x7_2 : Int) < ((x5_2.length : Int) : Int) := of_decide_eq_true (by first | (with_reducible assumption) | assumption)
                                        obtain ⟨ce50, hcl50, hM50, hcc50, hfr50⟩ := Kd.R_elem HO_5.out z157 (x7_2 : Int) p50 q50
                                        obtain rfl := k157_openM hM50
                                        have hx50_0 : w53.cell? ⟨go22, (x7_2 : Int).toNat * 3, none⟩ = some (.int .i64 ((rd_T157 x5_2 x7_2).f0)) := hcc50 0 _ rfl
                                        have hx50_1 : w53.cell? ⟨go22, (x7_2 : Int).toNat * 3 + 1, none⟩ = some (.int .i64 ((rd_T157 x5_2 x7_2).f1)) := hcc50 1 _ rfl
                                        have hx50_2 : w53.cell? ⟨go22, (x7_2 : Int).toNat * 3 + 2, none⟩ = some (.string ((rd_T157 x5_2 x7_2).f2)) := hcc50 2 _ rfl
                                        have hf50_0 : w53.frozen? ⟨go22, (x7_2 : Int).toNat * 3, none⟩ = false := hfr50 0
                                        have hf50_1 : w53.frozen? ⟨go22, (x7_2 : Int).toNat * 3 + 1, none⟩ = false := hfr50 1
                                        have hf50_2 : w53.frozen? ⟨go22, (x7_2 : Int).toNat * 3 + 2, none⟩ = false := hfr50 2
                                        clear hcl50 hcc50 hfr50 hM50
                                        replace p50 := eq_true p50
                                        replace q50 := eq_true q50
                                        have HX54 := Aside0.mk (show Kd.R k157 157 w53 w.heap.size (fun _ => True) (.slice (some ⟨go22, 0, none⟩) x5_2.length co25) x5_2 from (by (with_reducible repeat (first | apply Kd.R_alloc | apply Kd.R_drewN | apply Kd.R_drew)); exact HO_5.out))
                                        obtain ⟨ce54, hcl54, hM54, hcc54, hfr54⟩ := Kd.R_elem HX54.out z157 (x7_2 : Int) (of_decide_eq_true (by first | (with_reducible assumption) | assumption)) (by have h_ : (x7_2 : Int) < ((x5_2.length : Int) : Int) := of_decide_eq_true (by first | (with_reducible assumption) | assumption); first | exact h_ | (have e_ := (Kd.R_reads' HO_5.out).1; omega) | simpa using h_)
                                        obtain rfl := k157_openM hM54
                                        have HP54 := Kd.R_seg HX54.out (x7_2 : Int) (of_decide_eq_true (by first | (with_reducible assumption) | assumption)) (by have h_ : (x7_2 : Int) < ((x5_2.length : Int) : Int) := of_decide_eq_true (by first | (with_reducible assumption) | assumption); first | exact h_ | (have e_ := (Kd.R_reads' HO_5.out).1; omega) | simpa using h_) (seg := [.string (((⟨#[1]⟩ : ByteArray) ++ (rdOf ByteArray.empty l1_3 (ji34))) ++ t123)]) (j := 2) hcl54 hcc54 (show 3 ≤ 3 from by decide) (x' := (⟨(rd_T157 x5_2 x7_2).f0, (rd_T157 x5_2 x7_2).f1, ((⟨#[1]⟩ : ByteArray) ++ (rdOf ByteArray.empty l1_3 (ji34))) ++ t123⟩ : S157)) (k157_mkM _ _ _ (⟨(rd_T157 x5_2 x7_2).f0, (rd_T157 x5_2 x7_2).f1, ((⟨#[1]⟩ : ByteArray) ++ (rdOf ByteArray.empty l1_3 (ji34))) ++ t123⟩ : S157) ) (fun _ hk => hk)
                                        have hx54_2 := hcc54 2 _ rfl
                                        (try simp only [show (k157).sz = 3 from rfl, Nat.mul_one, Nat.add_zero] at hx54_2)
                                        have hf54_2 := hfr54 2
                                        (try simp only [show (k157).sz = 3 from rfl, Nat.mul_one, Nat.add_zero] at hf54_2)
                                        clear hcl54 hcc54 hfr54 hM54
                                        try go_wp2_with (first | ((with_reducible refine gate_store (t := 9) (p := 106) rfl ?_); refine store_event (t := 9) (p := 106) (v := ?vo_w55) (w1 := (w53.setCell ⟨go22, (x7_2 : Int).toNat * 3 + 2, none⟩ (.string (((⟨#[1]⟩ : ByteArray) ++ (rdOf ByteArray.empty l1_3 (ji34))) ++ t123)))) ?hg ?ho ?hn ?hr ?_; (case ho => rfl); (case hg => rfl); (case hn => rfl); (case hr => first | (go_simp; done) | (go_simp; rfl)); intro w55 hw; have hg : w53.grownBy w55 (some go22) := (by rw [hw]; exact HP54.2); have hp_ : Kd.R k157 157 w55 w.heap.size (fun _ => True) (.slice (some ⟨go22, 0, none⟩) x5_2.length co25) y128 := (by rw [hw, Ny128.out]; exact HP54.1); clear HP54; have n0_ := Aside0.mk (hp_); have n1_ := Aside0.mk (blk_grown (g := gb116) (o := .cells #[.string a1_0, .int .i64 a1_1, .int .i64 a1_2, .slice (some ad124) l1_3.length c1_3] 32 (0, 0)) (by (with_reducible repeat (first | refine blk_drewN ?_ _ | refine blk_drew ?_ | refine blk_alloc ?_ _)); exact BK116.out) hg (Kd.R_ne HO_5.out BK116.out (by decide))); have n2_ := Aside0.mk ((by rw [hw]; exact below_set (HB.out) GB22.out : Below w.heap.size w w55)); clear HO_5; clear BK116; clear HB; have HO_5 := n0_; have BK116 := n1_; have HB := n2_; clear n0_ n1_ n2_; clear hg hw hp_))
                                        (try simp only [← hl5_2])
                                        go_roundg k2
                                        case measure => have := HJ2.out; have := HK2.out; omega
                                        case rel => exact ⟨(y128), (wrap64 (x7_2 - 1)), (by first | rfl | (simp; done) | (simp [*]; done)), H', ⟨by have := HJ2.out; have := HK2.out; omega⟩, ⟨by (try simp only [hl5_2]); (with_reducible repeat (first | apply Kd.R_alloc | apply Kd.R_drewN | apply Kd.R_drew)); exact HO_5.out⟩, ⟨by (try simp only [hl5_2]); (with_reducible repeat (first | refine blk_drewN ?_ _ | refine blk_drew ?_ | refine blk_alloc ?_ _)); exact BK116.out⟩, ⟨by repeat (first | (with_reducible first | exact HB.out | apply below_alloc | apply pw_below_drewN | apply below_drew1 | refine below_set ?_ GE116.out) | exact HB.out)⟩⟩
                                      · rw [if_neg c49] at H
                                        exact absurd H (by simp)
                                    · rw [if_neg c48] at H
                                      exact absurd H (by simp)
                                · rw [if_neg c38] at H
                                  exact absurd H (by simp)
                              · rw [if_neg c37] at H
                                exact absurd H (by simp)
                            · rw [if_neg c36] at H
                              exact absurd H (by simp)
                          · rw [if_neg c35] at H
                            exact absurd H (by simp)
                        · rw [if_neg c32] at H
                          exact absurd H (by simp)
                      · rw [if_neg c31] at H
                        exact absurd H (by simp)
                    · rw [if_neg c29] at H
                      have c29b0 : decide (0 ≤ x7_2) = false := decide_eq_false c29
                      clear c29
                      obtain rfl := Option.some.inj H
                      go_wp2
                      go_ret
                      exact ⟨_, by first | rfl | (simp [errW_none, errW_some] <;> rfl) | (simp only [← hji19]; first | rfl | (simp [errW_none, errW_some] <;> rfl)) | (simp [*, errW_none, errW_some] <;> rfl), by (with_reducible repeat (first | apply Kd.R_alloc | apply Kd.R_drewN | apply Kd.R_drew)); exact HO_5.out, by repeat (first | (with_reducible first | exact HB.out | apply below_alloc | apply pw_below_drewN | apply below_drew1 | refine below_set ?_ GE116.out) | exact HB.out)⟩
              · rw [if_neg c21] at H
                exact absurd H (by simp)
            · rw [if_neg c20] at H
              exact absurd H (by simp)
          · rw [if_neg c18] at H
            exact absurd H (by simp)
        · rw [if_neg c17] at H
          have c17b0 : ((t118.length : Int) == (wrap64 ((l1_3.length : Int) + 1))) = false := beq_eq_false_iff_ne.mpr c17
          have c17b1 : ((t118.length : Int) != (wrap64 ((l1_3.length : Int) + 1))) = true := bne_iff_ne.mpr c17
          obtain rfl := Option.some.inj H
          have hcz56_0 : wc.cell? ⟨gb116, 0, none⟩ = some (.string a1_0) := (blk_cell BK116.out 0).trans rfl
          have hcz56_1 : wc.cell? ⟨gb116, 1, none⟩ = some (.int .i64 a1_1) := (blk_cell BK116.out 1).trans rfl
          have hcz56_2 : wc.cell? ⟨gb116, 2, none⟩ = some (.int .i64 a1_2) := (blk_cell BK116.out 2).trans rfl
          have hcz56_3 : wc.cell? ⟨gb116, 3, none⟩ = some (.slice A1_3 l1_3.length c1_3) := (blk_cell BK116.out 3).trans rfl
          have hfz56_0 := blk_frozen BK116.out 0
          have hfz56_1 := blk_frozen BK116.out 1
          have hfz56_2 := blk_frozen BK116.out 2
          have hfz56_3 := blk_frozen BK116.out 3
          go_wp2_with (first | ((with_reducible refine gate_callee (f := 125) rfl ?_); refine goesL_ (some 39) rfl rfl Try.func125 (by kernel_rfl) rfl #[.int .i64 a1_1, .int .i64 a1_2] rfl (by (try simp only [List.map_toArray, List.map_cons, List.map_nil]); first | done | rfl | (simp only [List.length_drop, List.length_take]; rfl)) ?_; (with_reducible refine (collide_path.calls kj2 a1_1 a1_2 t118 _ A16.out).mono ?_); rintro e w57 ⟨v119, rfl, ho0, hb⟩; refine ⟨_, rfl, ?_⟩; have n0_ := Aside0.mk (Kd.R_lower ho0 (below_size (by repeat (first | (with_reducible first | exact HB.out | apply below_alloc | apply pw_below_drewN | apply below_drew1 | refine below_set ?_ GE116.out) | exact HB.out)))); have n1_ := Aside0.mk (blk_below (g := gb116) (o := .cells #[.string a1_0, .int .i64 a1_1, .int .i64 a1_2, .slice A1_3 l1_3.length c1_3] 32 (0, 0)) (by (with_reducible repeat (first | refine blk_drewN ?_ _ | refine blk_drew ?_ | refine blk_alloc ?_ _)); exact BK116.out) hb); have n2_ := Aside0.mk (below_step (by repeat (first | (with_reducible first | exact HB.out | apply below_alloc | apply pw_below_drewN | apply below_drew1 | refine below_set ?_ GE116.out) | exact HB.out)) hb); clear BK116; clear HB; have HO120 := n0_; have BK116 := n1_; have HB := n2_; clear n0_ n1_ n2_; (try clear hb); (try clear hb2); (try clear hk); (try clear hi); (try clear ho0); obtain ⟨Ao58, co58, eo58⟩ := Kd.R_slice HO120.out; subst eo58; have hcz59_0 : w57.cell? ⟨gb116, 0, none⟩ = some (.string a1_0) := (blk_cell BK116.out 0).trans rfl; have hcz59_1 : w57.cell? ⟨gb116, 1, none⟩ = some (.int .i64 a1_1) := (blk_cell BK116.out 1).trans rfl; have hcz59_2 : w57.cell? ⟨gb116, 2, none⟩ = some (.int .i64 a1_2) := (blk_cell BK116.out 2).trans rfl; have hcz59_3 : w57.cell? ⟨gb116, 3, none⟩ = some (.slice A1_3 l1_3.length c1_3) := (blk_cell BK116.out 3).trans rfl; have hfz59_0 := blk_frozen BK116.out 0; have hfz59_1 := blk_frozen BK116.out 1; have hfz59_2 := blk_frozen BK116.out 2; have hfz59_3 := blk_frozen BK116.out 3))
          go_ret
          exact ⟨_, by first | rfl | (simp [errW_none, errW_some] <;> rfl) | (simp [*, errW_none, errW_some] <;> rfl), by first | exact Kd.R_nil _ _ _ _ _ | exact Kd.N_nil _ _ _ _ _ | exact Kd.V_nil _ _ _ _ _ | exact Kd.Q_nil _ _ _ _ _ | exact Kd.S_nil _ _ _ _ _, by repeat (first | (with_reducible first | exact HB.out | apply below_alloc | apply pw_below_drewN | apply below_drew1 | refine below_set ?_ GE116.out) | exact HB.out)⟩

end Go.Proofs.Ytolapikiflodfaa.PCollideLeaves
