/- Here is proved: a place that some nodes decide, as plain lists and maps, and what always holds of it: all values that are, or have been, chosen are one. Conditions: none. -/
import Derived.Test.YthedebalecnldaaProg
import Derived.Below
import Derived.Deep.Draws
import Derived.Deep.AppendLies
import Derived.Maps.AppendAt
import Derived.OwnWalk
import Derived.Laws.BytesArg
import Derived.Laws.MakeOwn
import Derived.Laws.OwnMore
import Derived.Deep.OwnRows
import Derived.Tactics
import Derived.Lib.ConvBytes
import Derived.Laws.Slices
import Derived.WalkKit
import Derived.KernelRfl
import Derived.RowKit3
import Derived.Deep.LoopGhost
import Derived.Deep.QuietTactic
import Derived.BigQuiet
import Derived.WideLaws
import Derived.Deep.DeepCutAuto
import Derived.Deep.CutBlock
import Derived.Deep.RegionHeld3
import Derived.Laws.Rows
import Derived.Lib.AppendStr
import Derived.ArgAppend
import Derived.Laws.IdiomCopy
import Derived.OrdersHeld
import Derived.Laws.BitsLemmas
import Derived.RowKit
import Derived.Test.YthedebalecnldaaWWords
import Derived.Test.YthedebalecnldaaWLast
import Derived.Test.YthedebalecnldaaWTab
import Derived.Test.YthedebalecnldaaWFour
import Derived.Test.YthedebalecnldaaWQPut
import Derived.Test.YthedebalecnldaaWApart
import Derived.Test.YthedebalecnldaaWArr
import Derived.Test.YthedebalecnldaaWZeros
import Derived.Test.YthedebalecnldaaWFoot
import Derived.Test.YthedebalecnldaaWKept
import Derived.Test.YthedebalecnldaaWShare
import Derived.Test.YthedebalecnldaaWN
import Derived.Test.YthedebalecnldaaWFootNe
import Derived.Test.YthedebalecnldaaWAt
import Derived.Test.YthedebalecnldaaWEqStruct
import Derived.Test.YthedebalecnldaaWRepsOne
import Derived.Test.YthedebalecnldaaWInv
import Derived.Test.YthedebalecnldaaWInvWords
import Derived.Test.YthedebalecnldaaWGuard
import Derived.Test.YthedebalecnldaaWNEv
import Derived.Test.YthedebalecnldaaWMore
import Derived.Maps.OwnSet
import Derived.Maps.RangeRun
import Derived.Lib.AtoiErrMem
import Derived.Deep.RegionLaw
import Derived.RegionTactic
import Derived.ChangeAlike
import Derived.BigRegion
import Derived.Deep.RegionWith
import Derived.StillTailTactics
import Derived.LoopTactic
import Derived.Lib.Hide
import Derived.IntWalk
import Derived.WalkLawsBesides
import Derived.WalkSpells
import Derived.RangeFuncNested
import Derived.RangeFuncBox
import Derived.RangeFuncBound
import Derived.RangeFuncCalls
import Derived.RangeFuncLeaves
import Derived.OwnWalkIn
namespace Go.Proofs.Ythedebalecnldaa.PReplicaArgs
open Go.RowKit Go.Proofs.YthedebalecnldaaW.PrintWords Go.Proofs.YthedebalecnldaaW.PrintLast Go.Proofs.YthedebalecnldaaW.PrintMore
attribute [local go_sem] max2_int min2_int max_two min_two max_three min_three max_four min_four   -- for this text's walks alone
set_option linter.unusedVariables false
set_option linter.unusedSimpArgs false



def errW : Option Int → Value
  | none => .nilIface
  | some c => .iface 0 (.int .i64 c)
theorem errW_none : errW none = .nilIface := rfl
theorem errW_some (c : Int) : errW (some c) = .iface 0 (.int .i64 c) := rfl

-- the values' own types

end Go.Proofs.Ythedebalecnldaa.PReplicaArgs
namespace Go.Proofs.Ythedebalecnldaa.PReplicaArgs
open Go.RowKit Go.Proofs.YthedebalecnldaaW.PrintWords Go.Proofs.YthedebalecnldaaW.PrintLast Go.Proofs.YthedebalecnldaaW.PrintMore
attribute [local go_sem] max2_int min2_int max_two min_two max_three min_three max_four min_four   -- for this text's walks alone
set_option linter.unusedVariables false
set_option linter.unusedSimpArgs false

/-! ### annalistref02_Right: function 9 -/
def annalistref02_Right.j0 : Nat → Bool → Int → Int → ByteArray → ByteArray → ByteArray → Option (Bool)
  | 0, _, _, _, _, _, _ => none
  | k + 1, x20, x122000, x122001, x122002, x122003, x122004 => if x20 = true then (some false) else (if x122002.toList = ([] : List UInt8) then (some false) else (if (x122002.size : Int) > 200 then (some false) else (if (x122003.size : Int) > 50 then (some false) else (if (x122004.size : Int) > 100 then (some false) else (if x122003.toList = ([] : List UInt8) then (some (x122004.toList == ([] : List UInt8))) else (some true))))))
def annalistref02_Right.f (k : Nat) (a0_0 : Int) (a0_1 : Int) (a0_2 : ByteArray) (a0_3 : ByteArray) (a0_4 : ByteArray) : Option (Bool) := if a0_0 < 0 then (annalistref02_Right.j0 k true a0_0 a0_1 a0_2 a0_3 a0_4) else (if a0_0 > 3 then (annalistref02_Right.j0 k true a0_0 a0_1 a0_2 a0_3 a0_4) else (if a0_1 < 1 then (annalistref02_Right.j0 k true a0_0 a0_1 a0_2 a0_3 a0_4) else (annalistref02_Right.j0 k (decide (a0_1 > 2147483647)) a0_0 a0_1 a0_2 a0_3 a0_4)))
theorem annalistref02_Right.mono_l : ∀ k, (∀ y0 y1 y2 y3 y4 y5, LeO (annalistref02_Right.j0 k y0 y1 y2 y3 y4 y5) (annalistref02_Right.j0 (k + 1) y0 y1 y2 y3 y4 y5))
  | 0 => fun _ _ _ _ _ _ r h => by simp [annalistref02_Right.j0] at h
  | k + 1 => by
    have ih0 := annalistref02_Right.mono_l k
    · intro y0 y1 y2 y3 y4 y5
      unfold annalistref02_Right.j0
      repeat' first
      | (with_reducible exact ih0 _ _ _ _ _ _)
      | (with_reducible exact LeO.refl _)
      | (with_reducible exact LeO.none _)
      | (with_reducible refine LeO.ite ?_ ?_)
      | (with_reducible refine LeO.bind ?_ (fun _ => ?_))
      | exact ih0 _ _ _ _ _ _
      | exact LeO.none _
      | refine LeO.ite ?_ ?_
      | refine LeO.bind ?_ (fun _ => ?_)
theorem annalistref02_Right.mono : ∀ a0 a1 a2 a3 a4 k, LeO (annalistref02_Right.f k a0 a1 a2 a3 a4) (annalistref02_Right.f (k + 1) a0 a1 a2 a3 a4) := by
  intro a0 a1 a2 a3 a4 k
  have ih0 := annalistref02_Right.mono_l k
  unfold annalistref02_Right.f
  repeat' first
      | (with_reducible exact ih0 _ _ _ _ _ _)
      | (with_reducible exact LeO.refl _)
      | (with_reducible exact LeO.none _)
      | (with_reducible refine LeO.ite ?_ ?_)
      | (with_reducible refine LeO.bind ?_ (fun _ => ?_))
      | exact ih0 _ _ _ _ _ _
      | exact LeO.none _
      | refine LeO.ite ?_ ?_
      | refine LeO.bind ?_ (fun _ => ?_)
set_option maxHeartbeats 8000000 in
set_option maxRecDepth 100000 in
theorem annalistref02_Right.calls (k : Nat) (a0_0 : Int) (a0_1 : Int) (a0_2 : ByteArray) (a0_3 : ByteArray) (a0_4 : ByteArray) (r : Bool) (w : World) (h : annalistref02_Right.f k a0_0 a0_1 a0_2 a0_3 a0_4 = some r) :
    Calls Try.prog 9 #[.agg #[.int .i64 a0_0, .int .i64 a0_1, .string a0_2, .string a0_3, .string a0_4]] w fun e w' => e = .returned (.bool r) ∧ Below w.heap.size w w' := by
  have hu24 := Try.underlying24
  have HB := Aside0.mk (Below.refl w.heap.size w)
  have H : (if a0_0 < 0 then (annalistref02_Right.j0 k true a0_0 a0_1 a0_2 a0_3 a0_4) else (if a0_0 > 3 then (annalistref02_Right.j0 k true a0_0 a0_1 a0_2 a0_3 a0_4) else (if a0_1 < 1 then (annalistref02_Right.j0 k true a0_0 a0_1 a0_2 a0_3 a0_4) else (annalistref02_Right.j0 k (decide (a0_1 > 2147483647)) a0_0 a0_1 a0_2 a0_3 a0_4)))) = some r := h
  clear h
  have HC2 := Aside0.mk H
  clear H
  go_enter Try.func9, Try.ntmps9
  go_upto_region 1 with (first | ((with_reducible refine gate_dst (N := 1) rfl ?_); (try (refine gate_guard (by rfl) ?_; dsimp only)); refine box_event ?hg (N := 1) ?hd (cs := #[.int .i64 a0_0, .int .i64 a0_1, .string a0_2, .string a0_3, .string a0_4]) (t := 24) ?hr ?_; (case hd => rfl); (case hg => rfl); (case hr => first | (go_simp; done) | (go_simp; rfl)); intro gb121 hg w3 hbox hb; have n0_ := Aside0.mk (below_step (by repeat (first | (with_reducible first | exact HB.out | apply below_alloc | apply pw_below_drewN | apply below_drew1) | exact HB.out)) hb); have n1_ := Aside0.mk (hbox); have n2_ := Aside0.mk ((by rw [hg]; exact (below_size (by repeat (first | (with_reducible first | exact HB.out | apply below_alloc | apply pw_below_drewN | apply below_drew1) | exact HB.out))) : w.heap.size ≤ gb121)); have n3_ := Aside0.mk ((by rw [hg]; exact (below_size (by repeat (first | (with_reducible first | exact HB.out | apply below_alloc | apply pw_below_drewN | apply below_drew1) | exact HB.out))) : w.heap.size ≤ gb121)); clear HB; have HB := n0_; have BK121 := n1_; have GW121 := n2_; have GE121 := n3_; clear n0_ n1_ n2_ n3_; clear hb hbox hg))
  (try simp only [Act.put, List.setIfInBounds_toArray, List.set_cons_zero, List.set_cons_succ])
  go_cut [20] (fun v20 wc => ∃ (kq : Nat) (x20_1 : Bool), v20 = .bool x20_1 ∧ Aside0 (annalistref02_Right.j0 kq x20_1 a0_0 a0_1 a0_2 a0_3 a0_4 = some r) ∧ Aside0 (kq ≤ k) ∧ Aside0 (wc.heap[gb121]? = some (.cells #[.int .i64 a0_0, .int .i64 a0_1, .string a0_2, .string a0_3, .string a0_4] 24 (0, 0))) ∧ Aside0 (Below w.heap.size w wc))
  case first =>
    have H := HC2.out
    clear HC2
    by_cases c4 : a0_0 < 0
    · rw [if_pos c4] at H
      have c4b0 : decide (a0_0 < 0) = true := decide_eq_true c4
      clear c4
      (first | rw [c4b0] | (simp only [i64_w, i32_w]; rw [c4b0]) | skip)
      have H' := Aside0.mk H
      clear H
      have hcz5_0 : w3.cell? ⟨gb121, 0, none⟩ = some (.int .i64 a0_0) := (blk_cell BK121.out 0).trans rfl
      have hcz5_1 : w3.cell? ⟨gb121, 1, none⟩ = some (.int .i64 a0_1) := (blk_cell BK121.out 1).trans rfl
      have hcz5_2 : w3.cell? ⟨gb121, 2, none⟩ = some (.string a0_2) := (blk_cell BK121.out 2).trans rfl
      have hcz5_3 : w3.cell? ⟨gb121, 3, none⟩ = some (.string a0_3) := (blk_cell BK121.out 3).trans rfl
      have hcz5_4 : w3.cell? ⟨gb121, 4, none⟩ = some (.string a0_4) := (blk_cell BK121.out 4).trans rfl
      have hfz5_0 := blk_frozen BK121.out 0
      have hfz5_1 := blk_frozen BK121.out 1
      have hfz5_2 := blk_frozen BK121.out 2
      have hfz5_3 := blk_frozen BK121.out 3
      have hfz5_4 := blk_frozen BK121.out 4
      go_wp2
      go_meet
      case rel => exact ⟨_, (true), (by first | rfl | (simp; done) | (simp [*]; done)), H', ⟨by first | omega | exact Nat.le_refl _⟩, ⟨by (with_reducible repeat (first | refine blk_drewN ?_ _ | refine blk_drew ?_ | refine blk_alloc ?_ _)); exact BK121.out⟩, ⟨by repeat (first | (with_reducible first | exact HB.out | apply below_alloc | apply pw_below_drewN | apply below_drew1 | refine below_set ?_ GE121.out) | exact HB.out)⟩⟩
    · rw [if_neg c4] at H
      have c4b0 : decide (a0_0 < 0) = false := decide_eq_false c4
      clear c4
      (first | rw [c4b0] | (simp only [i64_w, i32_w]; rw [c4b0]) | skip)
      by_cases c6 : a0_0 > 3
      · rw [if_pos c6] at H
        have c6b0 : decide (3 < a0_0) = true := decide_eq_true c6
        clear c6
        have H' := Aside0.mk H
        clear H
        have hcz7_0 : w3.cell? ⟨gb121, 0, none⟩ = some (.int .i64 a0_0) := (blk_cell BK121.out 0).trans rfl
        have hcz7_1 : w3.cell? ⟨gb121, 1, none⟩ = some (.int .i64 a0_1) := (blk_cell BK121.out 1).trans rfl
        have hcz7_2 : w3.cell? ⟨gb121, 2, none⟩ = some (.string a0_2) := (blk_cell BK121.out 2).trans rfl
        have hcz7_3 : w3.cell? ⟨gb121, 3, none⟩ = some (.string a0_3) := (blk_cell BK121.out 3).trans rfl
        have hcz7_4 : w3.cell? ⟨gb121, 4, none⟩ = some (.string a0_4) := (blk_cell BK121.out 4).trans rfl
        have hfz7_0 := blk_frozen BK121.out 0
        have hfz7_1 := blk_frozen BK121.out 1
        have hfz7_2 := blk_frozen BK121.out 2
        have hfz7_3 := blk_frozen BK121.out 3
        have hfz7_4 := blk_frozen BK121.out 4
        go_wp2
        go_meet
        case rel => exact ⟨_, (true), (by first | rfl | (simp; done) | (simp [*]; done)), H', ⟨by first | omega | exact Nat.le_refl _⟩, ⟨by (with_reducible repeat (first | refine blk_drewN ?_ _ | refine blk_drew ?_ | refine blk_alloc ?_ _)); exact BK121.out⟩, ⟨by repeat (first | (with_reducible first | exact HB.out | apply below_alloc | apply pw_below_drewN | apply below_drew1 | refine below_set ?_ GE121.out) | exact HB.out)⟩⟩
      · rw [if_neg c6] at H
        have c6b0 : decide (3 < a0_0) = false := decide_eq_false c6
        clear c6
        by_cases c8 : a0_1 < 1
        · rw [if_pos c8] at H
          have c8b0 : decide (a0_1 < 1) = true := decide_eq_true c8
          clear c8
          have H' := Aside0.mk H
          clear H
          have hcz9_0 : w3.cell? ⟨gb121, 0, none⟩ = some (.int .i64 a0_0) := (blk_cell BK121.out 0).trans rfl
          have hcz9_1 : w3.cell? ⟨gb121, 1, none⟩ = some (.int .i64 a0_1) := (blk_cell BK121.out 1).trans rfl
          have hcz9_2 : w3.cell? ⟨gb121, 2, none⟩ = some (.string a0_2) := (blk_cell BK121.out 2).trans rfl
          have hcz9_3 : w3.cell? ⟨gb121, 3, none⟩ = some (.string a0_3) := (blk_cell BK121.out 3).trans rfl
          have hcz9_4 : w3.cell? ⟨gb121, 4, none⟩ = some (.string a0_4) := (blk_cell BK121.out 4).trans rfl
          have hfz9_0 := blk_frozen BK121.out 0
          have hfz9_1 := blk_frozen BK121.out 1
          have hfz9_2 := blk_frozen BK121.out 2
          have hfz9_3 := blk_frozen BK121.out 3
          have hfz9_4 := blk_frozen BK121.out 4
          go_wp2
          go_meet
          case rel => exact ⟨_, (true), (by first | rfl | (simp; done) | (simp [*]; done)), H', ⟨by first | omega | exact Nat.le_refl _⟩, ⟨by (with_reducible repeat (first | refine blk_drewN ?_ _ | refine blk_drew ?_ | refine blk_alloc ?_ _)); exact BK121.out⟩, ⟨by repeat (first | (with_reducible first | exact HB.out | apply below_alloc | apply pw_below_drewN | apply below_drew1 | refine below_set ?_ GE121.out) | exact HB.out)⟩⟩
        · rw [if_neg c8] at H
          have c8b0 : decide (a0_1 < 1) = false := decide_eq_false c8
          clear c8
          have H' := Aside0.mk H
          clear H
          have hcz10_0 : w3.cell? ⟨gb121, 0, none⟩ = some (.int .i64 a0_0) := (blk_cell BK121.out 0).trans rfl
          have hcz10_1 : w3.cell? ⟨gb121, 1, none⟩ = some (.int .i64 a0_1) := (blk_cell BK121.out 1).trans rfl
          have hcz10_2 : w3.cell? ⟨gb121, 2, none⟩ = some (.string a0_2) := (blk_cell BK121.out 2).trans rfl
          have hcz10_3 : w3.cell? ⟨gb121, 3, none⟩ = some (.string a0_3) := (blk_cell BK121.out 3).trans rfl
          have hcz10_4 : w3.cell? ⟨gb121, 4, none⟩ = some (.string a0_4) := (blk_cell BK121.out 4).trans rfl
          have hfz10_0 := blk_frozen BK121.out 0
          have hfz10_1 := blk_frozen BK121.out 1
          have hfz10_2 := blk_frozen BK121.out 2
          have hfz10_3 := blk_frozen BK121.out 3
          have hfz10_4 := blk_frozen BK121.out 4
          go_wp2
          go_meet
          case rel => exact ⟨_, (decide (a0_1 > 2147483647)), (by first | rfl | (simp; done) | (simp [*]; done)), H', ⟨by first | omega | exact Nat.le_refl _⟩, ⟨by (with_reducible repeat (first | refine blk_drewN ?_ _ | refine blk_drew ?_ | refine blk_alloc ?_ _)); exact BK121.out⟩, ⟨by repeat (first | (with_reducible first | exact HB.out | apply below_alloc | apply pw_below_drewN | apply below_drew1 | refine below_set ?_ GE121.out) | exact HB.out)⟩⟩
  case rest =>
    clear HC2
    try clear p2
    try clear c4
    try clear c4b0
    try clear c6
    try clear c6b0
    try clear c8
    try clear c8b0
    try clear c9
    try clear hcz10_0
    try clear hcz10_1
    try clear hcz10_2
    try clear hcz10_3
    try clear hcz10_4
    try clear hcz5_0
    try clear hcz5_1
    try clear hcz5_2
    try clear hcz5_3
    try clear hcz5_4
    try clear hcz7_0
    try clear hcz7_1
    try clear hcz7_2
    try clear hcz7_3
    try clear hcz7_4
    try clear hcz9_0
    try clear hcz9_1
    try clear hcz9_2
    try clear hcz9_3
    try clear hcz9_4
    try clear hfz10_0
    try clear hfz10_1
    try clear hfz10_2
    try clear hfz10_3
    try clear hfz10_4
    try clear hfz5_0
    try clear hfz5_1
    try clear hfz5_2
    try clear hfz5_3
    try clear hfz5_4
    try clear hfz7_0
    try clear hfz7_1
    try clear hfz7_2
    try clear hfz7_3
    try clear hfz7_4
    try clear hfz9_0
    try clear hfz9_1
    try clear hfz9_2
    try clear hfz9_3
    try clear hfz9_4
    obtain ⟨kq, x20_1, rfl, HA, HJ1, BK121, HB⟩ := hcut
    cases kq with
    | zero => exact absurd HA.out (by simp [annalistref02_Right.j0])
    | succ kj1 =>
      have H := HA.out
      clear HA
      simp only [annalistref02_Right.j0] at H
      by_cases c11 : x20_1 = true
      · subst c11
        have H1 : (some false) = some r := by rw [if_pos rfl] at H; exact H
        clear H
        have H := H1
        clear H1
        obtain rfl := Option.some.inj H
        go_wp2
        go_ret
        exact ⟨by first | rfl | (simp [errW_none, errW_some] <;> rfl) | (simp [*, errW_none, errW_some] <;> rfl), by repeat (first | (with_reducible first | exact HB.out | apply below_alloc | apply pw_below_drewN | apply below_drew1 | refine below_set ?_ GE121.out) | exact HB.out)⟩
      · replace c11 := Bool.eq_false_iff.mpr c11
        subst c11
        have H1 : (if a0_2.toList = ([] : List UInt8) then (some false) else (if (a0_2.size : Int) > 200 then (some false) else (if (a0_3.size : Int) > 50 then (some false) else (if (a0_4.size : Int) > 100 then (some false) else (if a0_3.toList = ([] : List UInt8) then (some (a0_4.toList == ([] : List UInt8))) else (some true)))))) = some r := by rw [if_neg (show ¬ (false = true) by decide)] at H; exact H
        clear H
        have H := H1
        clear H1
        by_cases c12 : a0_2.toList = ([] : List UInt8)
        · rw [if_pos c12] at H
          have c12b0 : (a0_2.toList == ([] : List UInt8)) = true := beq_iff_eq.mpr c12
          have c12b1 : (a0_2.toList != ([] : List UInt8)) = false := bne_eq_false_iff_eq.mpr c12
          clear c12
          obtain rfl := Option.some.inj H
          have hcz13_0 : wc.cell? ⟨gb121, 0, none⟩ = some (.int .i64 a0_0) := (blk_cell BK121.out 0).trans rfl
          have hcz13_1 : wc.cell? ⟨gb121, 1, none⟩ = some (.int .i64 a0_1) := (blk_cell BK121.out 1).trans rfl
          have hcz13_2 : wc.cell? ⟨gb121, 2, none⟩ = some (.string a0_2) := (blk_cell BK121.out 2).trans rfl
          have hcz13_3 : wc.cell? ⟨gb121, 3, none⟩ = some (.string a0_3) := (blk_cell BK121.out 3).trans rfl
          have hcz13_4 : wc.cell? ⟨gb121, 4, none⟩ = some (.string a0_4) := (blk_cell BK121.out 4).trans rfl
          have hfz13_0 := blk_frozen BK121.out 0
          have hfz13_1 := blk_frozen BK121.out 1
          have hfz13_2 := blk_frozen BK121.out 2
          have hfz13_3 := blk_frozen BK121.out 3
          have hfz13_4 := blk_frozen BK121.out 4
          go_wp2
          go_ret
          exact ⟨by first | rfl | (simp [errW_none, errW_some] <;> rfl) | (simp [*, errW_none, errW_some] <;> rfl), by repeat (first | (with_reducible first | exact HB.out | apply below_alloc | apply pw_below_drewN | apply below_drew1 | refine below_set ?_ GE121.out) | exact HB.out)⟩
        · rw [if_neg c12] at H
          have c12b0 : (a0_2.toList == ([] : List UInt8)) = false := beq_eq_false_iff_ne.mpr c12
          have c12b1 : (a0_2.toList != ([] : List UInt8)) = true := bne_iff_ne.mpr c12
          by_cases c14 : (a0_2.size : Int) > 200
          · rw [if_pos c14] at H
            have c14b0 : decide (200 < (a0_2.size : Int)) = true := decide_eq_true c14
            have c14b1 : decide (200 < a0_2.size) = true := decide_eq_true (by omega)
            clear c14
            obtain rfl := Option.some.inj H
            have hcz15_0 : wc.cell? ⟨gb121, 0, none⟩ = some (.int .i64 a0_0) := (blk_cell BK121.out 0).trans rfl
            have hcz15_1 : wc.cell? ⟨gb121, 1, none⟩ = some (.int .i64 a0_1) := (blk_cell BK121.out 1).trans rfl
            have hcz15_2 : wc.cell? ⟨gb121, 2, none⟩ = some (.string a0_2) := (blk_cell BK121.out 2).trans rfl
            have hcz15_3 : wc.cell? ⟨gb121, 3, none⟩ = some (.string a0_3) := (blk_cell BK121.out 3).trans rfl
            have hcz15_4 : wc.cell? ⟨gb121, 4, none⟩ = some (.string a0_4) := (blk_cell BK121.out 4).trans rfl
            have hfz15_0 := blk_frozen BK121.out 0
            have hfz15_1 := blk_frozen BK121.out 1
            have hfz15_2 := blk_frozen BK121.out 2
            have hfz15_3 := blk_frozen BK121.out 3
            have hfz15_4 := blk_frozen BK121.out 4
            go_wp2
            go_ret
            exact ⟨by first | rfl | (simp [errW_none, errW_some] <;> rfl) | (simp [*, errW_none, errW_some] <;> rfl), by repeat (first | (with_reducible first | exact HB.out | apply below_alloc | apply pw_below_drewN | apply below_drew1 | refine below_set ?_ GE121.out) | exact HB.out)⟩
          · rw [if_neg c14] at H
            have c14b0 : decide (200 < (a0_2.size : Int)) = false := decide_eq_false c14
            have c14b1 : decide (200 < a0_2.size) = false := decide_eq_false (by omega)
            clear c14
            by_cases c16 : (a0_3.size : Int) > 50
            · rw [if_pos c16] at H
              have c16b0 : decide (50 < (a0_3.size : Int)) = true := decide_eq_true c16
              have c16b1 : decide (50 < a0_3.size) = true := decide_eq_true (by omega)
              clear c16
              obtain rfl := Option.some.inj H
              have hcz17_0 : wc.cell? ⟨gb121, 0, none⟩ = some (.int .i64 a0_0) := (blk_cell BK121.out 0).trans rfl
              have hcz17_1 : wc.cell? ⟨gb121, 1, none⟩ = some (.int .i64 a0_1) := (blk_cell BK121.out 1).trans rfl
              have hcz17_2 : wc.cell? ⟨gb121, 2, none⟩ = some (.string a0_2) := (blk_cell BK121.out 2).trans rfl
              have hcz17_3 : wc.cell? ⟨gb121, 3, none⟩ = some (.string a0_3) := (blk_cell BK121.out 3).trans rfl
              have hcz17_4 : wc.cell? ⟨gb121, 4, none⟩ = some (.string a0_4) := (blk_cell BK121.out 4).trans rfl
              have hfz17_0 := blk_frozen BK121.out 0
              have hfz17_1 := blk_frozen BK121.out 1
              have hfz17_2 := blk_frozen BK121.out 2
              have hfz17_3 := blk_frozen BK121.out 3
              have hfz17_4 := blk_frozen BK121.out 4
              go_wp2
              go_ret
              exact ⟨by first | rfl | (simp [errW_none, errW_some] <;> rfl) | (simp [*, errW_none, errW_some] <;> rfl), by repeat (first | (with_reducible first | exact HB.out | apply below_alloc | apply pw_below_drewN | apply below_drew1 | refine below_set ?_ GE121.out) | exact HB.out)⟩
            · rw [if_neg c16] at H
              have c16b0 : decide (50 < (a0_3.size : Int)) = false := decide_eq_false c16
              have c16b1 : decide (50 < a0_3.size) = false := decide_eq_false (by omega)
              clear c16
              by_cases c18 : (a0_4.size : Int) > 100
              · rw [if_pos c18] at H
                have c18b0 : decide (100 < (a0_4.size : Int)) = true := decide_eq_true c18
                have c18b1 : decide (100 < a0_4.size) = true := decide_eq_true (by omega)
                clear c18
                obtain rfl := Option.some.inj H
                have hcz19_0 : wc.cell? ⟨gb121, 0, none⟩ = some (.int .i64 a0_0) := (blk_cell BK121.out 0).trans rfl
                have hcz19_1 : wc.cell? ⟨gb121, 1, none⟩ = some (.int .i64 a0_1) := (blk_cell BK121.out 1).trans rfl
                have hcz19_2 : wc.cell? ⟨gb121, 2, none⟩ = some (.string a0_2) := (blk_cell BK121.out 2).trans rfl
                have hcz19_3 : wc.cell? ⟨gb121, 3, none⟩ = some (.string a0_3) := (blk_cell BK121.out 3).trans rfl
                have hcz19_4 : wc.cell? ⟨gb121, 4, none⟩ = some (.string a0_4) := (blk_cell BK121.out 4).trans rfl
                have hfz19_0 := blk_frozen BK121.out 0
                have hfz19_1 := blk_frozen BK121.out 1
                have hfz19_2 := blk_frozen BK121.out 2
                have hfz19_3 := blk_frozen BK121.out 3
                have hfz19_4 := blk_frozen BK121.out 4
                go_wp2
                go_ret
                exact ⟨by first | rfl | (simp [errW_none, errW_some] <;> rfl) | (simp [*, errW_none, errW_some] <;> rfl), by repeat (first | (with_reducible first | exact HB.out | apply below_alloc | apply pw_below_drewN | apply below_drew1 | refine below_set ?_ GE121.out) | exact HB.out)⟩
              · rw [if_neg c18] at H
                have c18b0 : decide (100 < (a0_4.size : Int)) = false := decide_eq_false c18
                have c18b1 : decide (100 < a0_4.size) = false := decide_eq_false (by omega)
                clear c18
                by_cases c20 : a0_3.toList = ([] : List UInt8)
                · rw [if_pos c20] at H
                  have c20b0 : (a0_3.toList == ([] : List UInt8)) = true := beq_iff_eq.mpr c20
                  have c20b1 : (a0_3.toList != ([] : List UInt8)) = false := bne_eq_false_iff_eq.mpr c20
                  clear c20
                  obtain rfl := Option.some.inj H
                  have hcz21_0 : wc.cell? ⟨gb121, 0, none⟩ = some (.int .i64 a0_0) := (blk_cell BK121.out 0).trans rfl
                  have hcz21_1 : wc.cell? ⟨gb121, 1, none⟩ = some (.int .i64 a0_1) := (blk_cell BK121.out 1).trans rfl
                  have hcz21_2 : wc.cell? ⟨gb121, 2, none⟩ = some (.string a0_2) := (blk_cell BK121.out 2).trans rfl
                  have hcz21_3 : wc.cell? ⟨gb121, 3, none⟩ = some (.string a0_3) := (blk_cell BK121.out 3).trans rfl
                  have hcz21_4 : wc.cell? ⟨gb121, 4, none⟩ = some (.string a0_4) := (blk_cell BK121.out 4).trans rfl
                  have hfz21_0 := blk_frozen BK121.out 0
                  have hfz21_1 := blk_frozen BK121.out 1
                  have hfz21_2 := blk_frozen BK121.out 2
                  have hfz21_3 := blk_frozen BK121.out 3
                  have hfz21_4 := blk_frozen BK121.out 4
                  go_wp2
                  go_ret
                  exact ⟨by first | rfl | (simp [errW_none, errW_some] <;> rfl) | (simp [*, errW_none, errW_some] <;> rfl), by repeat (first | (with_reducible first | exact HB.out | apply below_alloc | apply pw_below_drewN | apply below_drew1 | refine below_set ?_ GE121.out) | exact HB.out)⟩
                · rw [if_neg c20] at H
                  have c20b0 : (a0_3.toList == ([] : List UInt8)) = false := beq_eq_false_iff_ne.mpr c20
                  have c20b1 : (a0_3.toList != ([] : List UInt8)) = true := bne_iff_ne.mpr c20
                  obtain rfl := Option.some.inj H
                  have hcz22_0 : wc.cell? ⟨gb121, 0, none⟩ = some (.int .i64 a0_0) := (blk_cell BK121.out 0).trans rfl
                  have hcz22_1 : wc.cell? ⟨gb121, 1, none⟩ = some (.int .i64 a0_1) := (blk_cell BK121.out 1).trans rfl
                  have hcz22_2 : wc.cell? ⟨gb121, 2, none⟩ = some (.string a0_2) := (blk_cell BK121.out 2).trans rfl
                  have hcz22_3 : wc.cell? ⟨gb121, 3, none⟩ = some (.string a0_3) := (blk_cell BK121.out 3).trans rfl
                  have hcz22_4 : wc.cell? ⟨gb121, 4, none⟩ = some (.string a0_4) := (blk_cell BK121.out 4).trans rfl
                  have hfz22_0 := blk_frozen BK121.out 0
                  have hfz22_1 := blk_frozen BK121.out 1
                  have hfz22_2 := blk_frozen BK121.out 2
                  have hfz22_3 := blk_frozen BK121.out 3
                  have hfz22_4 := blk_frozen BK121.out 4
                  go_wp2
                  go_ret
                  exact ⟨by first | rfl | (simp [errW_none, errW_some] <;> rfl) | (simp [*, errW_none, errW_some] <;> rfl), by repeat (first | (with_reducible first | exact HB.out | apply below_alloc | apply pw_below_drewN | apply below_drew1 | refine below_set ?_ GE121.out) | exact HB.out)⟩

end Go.Proofs.Ythedebalecnldaa.PReplicaArgs
namespace Go.Proofs.Ythedebalecnldaa.PReplicaArgs
open Go.RowKit Go.Proofs.YthedebalecnldaaW.PrintWords Go.Proofs.YthedebalecnldaaW.PrintLast Go.Proofs.YthedebalecnldaaW.PrintMore
attribute [local go_sem] max2_int min2_int max_two min_two max_three min_three max_four min_four   -- for this text's walks alone
set_option linter.unusedVariables false
set_option linter.unusedSimpArgs false

/-- A state of type 85 at block g of W; what its slices lead to came in by w0. -/
def IsS85 (w0 W : World) (g : Nat) (f0 : Int) (f1 : Int) (f2 : Int) (f3 : ByteArray) (f4 : Int) (f5 : ByteArray) (f6 : Int) (f7 : Int) : Prop := W.heap[g]? = some (.cells #[.int .i64 f0, .int .i64 f1, .int .i64 f2, .string f3, .int .i64 f4, .string f5, .int .u64 f6, .int .u64 f7] 85 (0, 0)) ∧ w0.heap.size ≤ g
theorem IsS85.grown {w0 W : World} {g : Nat} {f0 : Int} {f1 : Int} {f2 : Int} {f3 : ByteArray} {f4 : Int} {f5 : ByteArray} {f6 : Int} {f7 : Int} {W1 : World} {row : Option Nat} (h : IsS85 w0 W g f0 f1 f2 f3 f4 f5 f6 f7) (hw : W.grownBy W1 row) (hne : some g ≠ row) : IsS85 w0 W1 g f0 f1 f2 f3 f4 f5 f6 f7 := by
  obtain ⟨hb, hg⟩ := h
  exact ⟨blk_grown hb hw hne, hg⟩
theorem IsS85.fresh {w0 W : World} {g : Nat} {f0 : Int} {f1 : Int} {f2 : Int} {f3 : ByteArray} {f4 : Int} {f5 : ByteArray} {f6 : Int} {f7 : Int} (h : IsS85 w0 W g f0 f1 f2 f3 f4 f5 f6 f7) : ∀ k, W.heap.size ≤ k → k ≠ g := by
  obtain ⟨hb, hg⟩ := h
  exact Kd.freshB hb
theorem IsS85.below {w0 W : World} {g : Nat} {f0 : Int} {f1 : Int} {f2 : Int} {f3 : ByteArray} {f4 : Int} {f5 : ByteArray} {f6 : Int} {f7 : Int} {W1 : World} (h : IsS85 w0 W g f0 f1 f2 f3 f4 f5 f6 f7) (hw : Below W.heap.size W W1) : IsS85 w0 W1 g f0 f1 f2 f3 f4 f5 f6 f7 := h.grown (grown_of_below hw none) (by simp)
theorem IsS85.alloc {w0 W : World} {g : Nat} {f0 : Int} {f1 : Int} {f2 : Int} {f3 : ByteArray} {f4 : Int} {f5 : ByteArray} {f6 : Int} {f7 : Int} (h : IsS85 w0 W g f0 f1 f2 f3 f4 f5 f6 f7) (o : Obj) : IsS85 w0 (W.alloc o) g f0 f1 f2 f3 f4 f5 f6 f7 := h.below (below_alloc (Below.refl _ _) o)
theorem IsS85.drewN {w0 W : World} {g : Nat} {f0 : Int} {f1 : Int} {f2 : Int} {f3 : ByteArray} {f4 : Int} {f5 : ByteArray} {f6 : Int} {f7 : Int} (h : IsS85 w0 W g f0 f1 f2 f3 f4 f5 f6 f7) (m : Nat) : IsS85 w0 (W.drewN m) g f0 f1 f2 f3 f4 f5 f6 f7 := h
theorem IsS85.drew {w0 W : World} {g : Nat} {f0 : Int} {f1 : Int} {f2 : Int} {f3 : ByteArray} {f4 : Int} {f5 : ByteArray} {f6 : Int} {f7 : Int} (h : IsS85 w0 W g f0 f1 f2 f3 f4 f5 f6 f7) : IsS85 w0 W.drew g f0 f1 f2 f3 f4 f5 f6 f7 := h
theorem IsS85.lt {w0 W : World} {g : Nat} {f0 : Int} {f1 : Int} {f2 : Int} {f3 : ByteArray} {f4 : Int} {f5 : ByteArray} {f6 : Int} {f7 : Int} (h : IsS85 w0 W g f0 f1 f2 f3 f4 f5 f6 f7) : g < W.heap.size := by
  obtain ⟨hb, hg⟩ := h
  exact blk_lt hb
theorem IsS85.ge {w0 W : World} {g : Nat} {f0 : Int} {f1 : Int} {f2 : Int} {f3 : ByteArray} {f4 : Int} {f5 : ByteArray} {f6 : Int} {f7 : Int} (h : IsS85 w0 W g f0 f1 f2 f3 f4 f5 f6 f7) : w0.heap.size ≤ g := by
  obtain ⟨hb, hg⟩ := h
  exact hg
theorem cellS85_0 {W : World} {g : Nat} {f0 : Int} {f1 : Int} {f2 : Int} {f3 : ByteArray} {f4 : Int} {f5 : ByteArray} {f6 : Int} {f7 : Int} (h : W.heap[g]? = some (.cells #[.int .i64 f0, .int .i64 f1, .int .i64 f2, .string f3, .int .i64 f4, .string f5, .int .u64 f6, .int .u64 f7] 85 (0, 0))) : W.cell? ⟨g, 0, none⟩ = some (.int .i64 f0) := (blk_cell h 0).trans rfl
theorem IsS85.set_0 {w0 W : World} {g : Nat} {f0 : Int} {f1 : Int} {f2 : Int} {f3 : ByteArray} {f4 : Int} {f5 : ByteArray} {f6 : Int} {f7 : Int} (h : IsS85 w0 W g f0 f1 f2 f3 f4 f5 f6 f7) (x : Int) : IsS85 w0 (W.setCell ⟨g, 0, none⟩ (.int .i64 x)) g x f1 f2 f3 f4 f5 f6 f7 := by
  obtain ⟨hb, hg⟩ := h
  exact ⟨by simpa using blk_set hb 0 (.int .i64 x), hg⟩
theorem cellS85_1 {W : World} {g : Nat} {f0 : Int} {f1 : Int} {f2 : Int} {f3 : ByteArray} {f4 : Int} {f5 : ByteArray} {f6 : Int} {f7 : Int} (h : W.heap[g]? = some (.cells #[.int .i64 f0, .int .i64 f1, .int .i64 f2, .string f3, .int .i64 f4, .string f5, .int .u64 f6, .int .u64 f7] 85 (0, 0))) : W.cell? ⟨g, 1, none⟩ = some (.int .i64 f1) := (blk_cell h 1).trans rfl
theorem IsS85.set_1 {w0 W : World} {g : Nat} {f0 : Int} {f1 : Int} {f2 : Int} {f3 : ByteArray} {f4 : Int} {f5 : ByteArray} {f6 : Int} {f7 : Int} (h : IsS85 w0 W g f0 f1 f2 f3 f4 f5 f6 f7) (x : Int) : IsS85 w0 (W.setCell ⟨g, 1, none⟩ (.int .i64 x)) g f0 x f2 f3 f4 f5 f6 f7 := by
  obtain ⟨hb, hg⟩ := h
  exact ⟨by simpa using blk_set hb 1 (.int .i64 x), hg⟩
theorem cellS85_2 {W : World} {g : Nat} {f0 : Int} {f1 : Int} {f2 : Int} {f3 : ByteArray} {f4 : Int} {f5 : ByteArray} {f6 : Int} {f7 : Int} (h : W.heap[g]? = some (.cells #[.int .i64 f0, .int .i64 f1, .int .i64 f2, .string f3, .int .i64 f4, .string f5, .int .u64 f6, .int .u64 f7] 85 (0, 0))) : W.cell? ⟨g, 2, none⟩ = some (.int .i64 f2) := (blk_cell h 2).trans rfl
theorem IsS85.set_2 {w0 W : World} {g : Nat} {f0 : Int} {f1 : Int} {f2 : Int} {f3 : ByteArray} {f4 : Int} {f5 : ByteArray} {f6 : Int} {f7 : Int} (h : IsS85 w0 W g f0 f1 f2 f3 f4 f5 f6 f7) (x : Int) : IsS85 w0 (W.setCell ⟨g, 2, none⟩ (.int .i64 x)) g f0 f1 x f3 f4 f5 f6 f7 := by
  obtain ⟨hb, hg⟩ := h
  exact ⟨by simpa using blk_set hb 2 (.int .i64 x), hg⟩
theorem cellS85_3 {W : World} {g : Nat} {f0 : Int} {f1 : Int} {f2 : Int} {f3 : ByteArray} {f4 : Int} {f5 : ByteArray} {f6 : Int} {f7 : Int} (h : W.heap[g]? = some (.cells #[.int .i64 f0, .int .i64 f1, .int .i64 f2, .string f3, .int .i64 f4, .string f5, .int .u64 f6, .int .u64 f7] 85 (0, 0))) : W.cell? ⟨g, 3, none⟩ = some (.string f3) := (blk_cell h 3).trans rfl
theorem IsS85.set_3 {w0 W : World} {g : Nat} {f0 : Int} {f1 : Int} {f2 : Int} {f3 : ByteArray} {f4 : Int} {f5 : ByteArray} {f6 : Int} {f7 : Int} (h : IsS85 w0 W g f0 f1 f2 f3 f4 f5 f6 f7) (x : ByteArray) : IsS85 w0 (W.setCell ⟨g, 3, none⟩ (.string x)) g f0 f1 f2 x f4 f5 f6 f7 := by
  obtain ⟨hb, hg⟩ := h
  exact ⟨by simpa using blk_set hb 3 (.string x), hg⟩
theorem cellS85_4 {W : World} {g : Nat} {f0 : Int} {f1 : Int} {f2 : Int} {f3 : ByteArray} {f4 : Int} {f5 : ByteArray} {f6 : Int} {f7 : Int} (h : W.heap[g]? = some (.cells #[.int .i64 f0, .int .i64 f1, .int .i64 f2, .string f3, .int .i64 f4, .string f5, .int .u64 f6, .int .u64 f7] 85 (0, 0))) : W.cell? ⟨g, 4, none⟩ = some (.int .i64 f4) := (blk_cell h 4).trans rfl
theorem IsS85.set_4 {w0 W : World} {g : Nat} {f0 : Int} {f1 : Int} {f2 : Int} {f3 : ByteArray} {f4 : Int} {f5 : ByteArray} {f6 : Int} {f7 : Int} (h : IsS85 w0 W g f0 f1 f2 f3 f4 f5 f6 f7) (x : Int) : IsS85 w0 (W.setCell ⟨g, 4, none⟩ (.int .i64 x)) g f0 f1 f2 f3 x f5 f6 f7 := by
  obtain ⟨hb, hg⟩ := h
  exact ⟨by simpa using blk_set hb 4 (.int .i64 x), hg⟩
theorem cellS85_5 {W : World} {g : Nat} {f0 : Int} {f1 : Int} {f2 : Int} {f3 : ByteArray} {f4 : Int} {f5 : ByteArray} {f6 : Int} {f7 : Int} (h : W.heap[g]? = some (.cells #[.int .i64 f0, .int .i64 f1, .int .i64 f2, .string f3, .int .i64 f4, .string f5, .int .u64 f6, .int .u64 f7] 85 (0, 0))) : W.cell? ⟨g, 5, none⟩ = some (.string f5) := (blk_cell h 5).trans rfl
theorem IsS85.set_5 {w0 W : World} {g : Nat} {f0 : Int} {f1 : Int} {f2 : Int} {f3 : ByteArray} {f4 : Int} {f5 : ByteArray} {f6 : Int} {f7 : Int} (h : IsS85 w0 W g f0 f1 f2 f3 f4 f5 f6 f7) (x : ByteArray) : IsS85 w0 (W.setCell ⟨g, 5, none⟩ (.string x)) g f0 f1 f2 f3 f4 x f6 f7 := by
  obtain ⟨hb, hg⟩ := h
  exact ⟨by simpa using blk_set hb 5 (.string x), hg⟩
theorem cellS85_6 {W : World} {g : Nat} {f0 : Int} {f1 : Int} {f2 : Int} {f3 : ByteArray} {f4 : Int} {f5 : ByteArray} {f6 : Int} {f7 : Int} (h : W.heap[g]? = some (.cells #[.int .i64 f0, .int .i64 f1, .int .i64 f2, .string f3, .int .i64 f4, .string f5, .int .u64 f6, .int .u64 f7] 85 (0, 0))) : W.cell? ⟨g, 6, none⟩ = some (.int .u64 f6) := (blk_cell h 6).trans rfl
theorem IsS85.set_6 {w0 W : World} {g : Nat} {f0 : Int} {f1 : Int} {f2 : Int} {f3 : ByteArray} {f4 : Int} {f5 : ByteArray} {f6 : Int} {f7 : Int} (h : IsS85 w0 W g f0 f1 f2 f3 f4 f5 f6 f7) (x : Int) : IsS85 w0 (W.setCell ⟨g, 6, none⟩ (.int .u64 x)) g f0 f1 f2 f3 f4 f5 x f7 := by
  obtain ⟨hb, hg⟩ := h
  exact ⟨by simpa using blk_set hb 6 (.int .u64 x), hg⟩
theorem cellS85_7 {W : World} {g : Nat} {f0 : Int} {f1 : Int} {f2 : Int} {f3 : ByteArray} {f4 : Int} {f5 : ByteArray} {f6 : Int} {f7 : Int} (h : W.heap[g]? = some (.cells #[.int .i64 f0, .int .i64 f1, .int .i64 f2, .string f3, .int .i64 f4, .string f5, .int .u64 f6, .int .u64 f7] 85 (0, 0))) : W.cell? ⟨g, 7, none⟩ = some (.int .u64 f7) := (blk_cell h 7).trans rfl
theorem IsS85.set_7 {w0 W : World} {g : Nat} {f0 : Int} {f1 : Int} {f2 : Int} {f3 : ByteArray} {f4 : Int} {f5 : ByteArray} {f6 : Int} {f7 : Int} (h : IsS85 w0 W g f0 f1 f2 f3 f4 f5 f6 f7) (x : Int) : IsS85 w0 (W.setCell ⟨g, 7, none⟩ (.int .u64 x)) g f0 f1 f2 f3 f4 f5 f6 x := by
  obtain ⟨hb, hg⟩ := h
  exact ⟨by simpa using blk_set hb 7 (.int .u64 x), hg⟩
theorem IsS85.new (w0 W : World) (f0 : Int) (f1 : Int) (f2 : Int) (f3 : ByteArray) (f4 : Int) (f5 : ByteArray) (f6 : Int) (f7 : Int) (hB : Below w0.heap.size w0 W) : IsS85 w0 (W.alloc (.cells #[.int .i64 f0, .int .i64 f1, .int .i64 f2, .string f3, .int .i64 f4, .string f5, .int .u64 f6, .int .u64 f7] 85)) W.heap.size f0 f1 f2 f3 f4 f5 f6 f7 := ⟨by simpa using heap_alloc_new W _, hB.size⟩

/-! ### prop_New: function 27 -/
def prop_New.f (a0 : Int) (a1 : Int) (a2 : ByteArray) : Option (Int × Int × Int × ByteArray × Int × ByteArray × Int × Int) := some (mn (mx a0 1) 63, a1, 1, a2, 0, (⟨#[]⟩ : ByteArray), 0, 0)
set_option maxHeartbeats 8000000 in
set_option maxRecDepth 100000 in
theorem prop_New.calls (a0 : Int) (a1 : Int) (a2 : ByteArray) (r1 : Int) (r2 : Int) (r3 : Int) (r4 : ByteArray) (r5 : Int) (r6 : ByteArray) (r7 : Int) (r8 : Int) (w0 w : World) (hB : Below w0.heap.size w0 w) (h : prop_New.f a0 a1 a2 = some (r1, r2, r3, r4, r5, r6, r7, r8)) :
    Calls Try.prog 27 #[.int .i64 a0, .int .i64 a1, .string a2] w fun e w' => ∃ g_ : Nat, e = .returned (.pointer (some ⟨g_, 0, none⟩)) ∧ IsS85 w0 w' g_ r1 r2 r3 r4 r5 r6 r7 r8 ∧ Below w0.heap.size w0 w' ∧ Below w.heap.size w w' := by
  have hu85 := Try.underlying85
  have HBW := Aside0.mk (Below.refl w.heap.size w)
  have HW0 := Aside0.mk hB.size
  have HB := Aside0.mk hB
  clear hB
  have H : (some (mn (mx a0 1) 63, a1, 1, a2, 0, (⟨#[]⟩ : ByteArray), 0, 0)) = some (r1, r2, r3, r4, r5, r6, r7, r8) := h
  clear h
  obtain ⟨ji4, hji4⟩ : ∃ j_ : Int, (mx a0 1) = j_ := ⟨_, rfl⟩
  replace H : (some (mn (ji4) 63, a1, 1, a2, 0, (⟨#[]⟩ : ByteArray), 0, 0)) = some (r1, r2, r3, r4, r5, r6, r7, r8) := by first | (rw [hji4] at H; exact H) | (simp only [hji4] at H ⊢; exact H)
  (try (have hji4l : 1 ≤ ji4 := by (rw [← hji4]; unfold mx; (repeat' split) <;> omega)))
  (try (have hji4m : 0 ≤ ji4 := by omega))
  have hji4_ : (if a0 < 1 then 1 else a0) = ji4 := hji4
  obtain ⟨ji5, hji5⟩ : ∃ j_ : Int, (mn (ji4) 63) = j_ := ⟨_, rfl⟩
  replace H : (some (ji5, a1, 1, a2, 0, (⟨#[]⟩ : ByteArray), 0, 0)) = some (r1, r2, r3, r4, r5, r6, r7, r8) := by first | (rw [hji5] at H; exact H) | (simp only [hji5] at H ⊢; exact H)
  have hji5_ : (if 63 < (ji4) then 63 else (ji4)) = ji5 := hji5
  simp only [Option.some.injEq, Prod.mk.injEq] at H
  obtain ⟨rfl, rfl, rfl, rfl, rfl, rfl, rfl, rfl⟩ := H
  go_enter Try.func27, Try.ntmps27
  go_wp2_with (first | ((with_reducible refine gate_dst (N := 13) rfl ?_); refine box_event ?hg (N := 13) ?hd (cs := #[.int .i64 ji5, .int .i64 a1, .int .i64 1, .string a2, .int .i64 0, .string (⟨#[]⟩ : ByteArray), .int .u64 0, .int .u64 0]) (t := 85) ?hr ?_; (case hd => rfl); (case hg => rfl); (case hr => first | (go_simp; done) | (go_simp; rfl)); intro gb103 hg w6 hbox hb; have n0_ := Aside0.mk (below_step HBW.out hb); have n1_ := Aside0.mk (below_step (by repeat (first | (with_reducible first | exact HB.out | apply below_alloc | apply pw_below_drewN | apply below_drew1) | exact HB.out)) hb); have n2_ := Aside0.mk (hbox); have n3_ := Aside0.mk ((by rw [hg]; exact (below_size (by repeat (first | (with_reducible first | exact HBW.out | apply below_alloc | apply pw_below_drewN | apply below_drew1) | exact HBW.out))) : w.heap.size ≤ gb103)); have n4_ := Aside0.mk ((Nat.le_trans HW0.out (by rw [hg]; exact (below_size (by repeat (first | (with_reducible first | exact HBW.out | apply below_alloc | apply pw_below_drewN | apply below_drew1) | exact HBW.out))) : w.heap.size ≤ gb103) : w0.heap.size ≤ gb103)); clear HBW; clear HB; have HBW := n0_; have HB := n1_; have BK103 := n2_; have GW103 := n3_; have GE103 := n4_; clear n0_ n1_ n2_ n3_ n4_; clear hb hbox hg))
  go_ret
  exact ⟨_, rfl, (show IsS85 w0 _ gb103 ji5 a1 1 a2 0 (⟨#[]⟩ : ByteArray) 0 0 from ⟨by (with_reducible repeat (first | refine blk_drewN ?_ _ | refine blk_drew ?_ | refine blk_alloc ?_ _)); exact BK103.out, GE103.out⟩), by repeat (first | (with_reducible first | exact HB.out | apply below_alloc | apply pw_below_drewN | apply below_drew1 | refine below_set ?_ GE103.out) | exact HB.out), by repeat (first | (with_reducible first | exact HBW.out | apply below_alloc | apply pw_below_drewN | apply below_drew1 | refine below_set ?_ GW103.out) | exact HBW.out)⟩

-- NOT PRINTED: function 30 (replica_Replica_send)

-- NOT PRINTED: function 28 (replica_Replica_all)

end Go.Proofs.Ythedebalecnldaa.PReplicaArgs
namespace Go.Proofs.Ythedebalecnldaa.PReplicaArgs
open Go.RowKit Go.Proofs.YthedebalecnldaaW.PrintWords Go.Proofs.YthedebalecnldaaW.PrintLast Go.Proofs.YthedebalecnldaaW.PrintMore
attribute [local go_sem] max2_int min2_int max_two min_two max_three min_three max_four min_four   -- for this text's walks alone
set_option linter.unusedVariables false
set_option linter.unusedSimpArgs false

/-! ### prop_Prop_Ballot: function 29 -/
def prop_Prop_Ballot.f (s0_0 : Int) (s0_1 : Int) (s0_2 : Int) (s0_3 : ByteArray) (s0_4 : Int) (s0_5 : ByteArray) (s0_6 : Int) (s0_7 : Int) : Option (Int × Int × Int × Int × ByteArray × Int × ByteArray × Int × Int) := some (s0_1, s0_0, s0_1, s0_2, s0_3, s0_4, s0_5, s0_6, s0_7)
set_option maxHeartbeats 8000000 in
set_option maxRecDepth 100000 in
theorem prop_Prop_Ballot.calls (g : Nat) (s0_0 : Int) (s0_1 : Int) (s0_2 : Int) (s0_3 : ByteArray) (s0_4 : Int) (s0_5 : ByteArray) (s0_6 : Int) (s0_7 : Int) (r1 : Int) (r2 : Int) (r3 : Int) (r4 : Int) (r5 : ByteArray) (r6 : Int) (r7 : ByteArray) (r8 : Int) (r9 : Int) (w0 w : World) (hI : IsS85 w0 w g s0_0 s0_1 s0_2 s0_3 s0_4 s0_5 s0_6 s0_7) (hB : Below w0.heap.size w0 w) (h : prop_Prop_Ballot.f s0_0 s0_1 s0_2 s0_3 s0_4 s0_5 s0_6 s0_7 = some (r1, r2, r3, r4, r5, r6, r7, r8, r9)) :
    Calls Try.prog 29 #[.pointer (some ⟨g, 0, none⟩)] w fun e w' => e = .returned (.int .i64 r1) ∧ IsS85 w0 w' g r2 r3 r4 r5 r6 r7 r8 r9 ∧ Below w0.heap.size w0 w' ∧ KeepBut w w' g none := by
  have HI0 := Aside0.mk hI
  have HK := Aside0.mk (KeepBut.refl w g none)
  have HL := Aside0.mk hB.size
  clear hI
  have HW0 := Aside0.mk hB.size
  have HB := Aside0.mk hB
  clear hB
  have H : (some (s0_1, s0_0, s0_1, s0_2, s0_3, s0_4, s0_5, s0_6, s0_7)) = some (r1, r2, r3, r4, r5, r6, r7, r8, r9) := h
  clear h
  simp only [Option.some.injEq, Prod.mk.injEq] at H
  obtain ⟨rfl, rfl, rfl, rfl, rfl, rfl, rfl, rfl, rfl⟩ := H
  obtain ⟨HGz2, hgz2⟩ := HI0.out
  have hcz2_0 := cellS85_0 HGz2
  have hcz2_1 := cellS85_1 HGz2
  have hcz2_2 := cellS85_2 HGz2
  have hcz2_3 := cellS85_3 HGz2
  have hcz2_4 := cellS85_4 HGz2
  have hcz2_5 := cellS85_5 HGz2
  have hcz2_6 := cellS85_6 HGz2
  have hcz2_7 := cellS85_7 HGz2
  have hfz2_0 := blk_frozen HGz2 0
  have hfz2_1 := blk_frozen HGz2 1
  have hfz2_2 := blk_frozen HGz2 2
  have hfz2_3 := blk_frozen HGz2 3
  have hfz2_4 := blk_frozen HGz2 4
  have hfz2_5 := blk_frozen HGz2 5
  have hfz2_6 := blk_frozen HGz2 6
  have hfz2_7 := blk_frozen HGz2 7
  clear HGz2 hgz2
  go_enter Try.func29, Try.ntmps29
  go_wp2
  go_ret
  exact ⟨by first | rfl | (simp [errW_none, errW_some] <;> rfl) | (simp [*, errW_none, errW_some] <;> rfl), by repeat (first | (with_reducible first | exact HI0.out | apply IsS85.alloc | apply IsS85.drewN | apply IsS85.drew | apply IsS85.set_0 | apply IsS85.set_1 | apply IsS85.set_2 | apply IsS85.set_3 | apply IsS85.set_4 | apply IsS85.set_5 | apply IsS85.set_6 | apply IsS85.set_7) | exact HI0.out), by repeat (first | (with_reducible first | exact HB.out | apply below_alloc | apply pw_below_drewN | apply below_drew1 | refine below_set ?_ (IsS85.ge HI0.out)) | exact HB.out), by repeat (first | (with_reducible first | exact HK.out | apply KeepBut.set_ | apply keep_drewN | apply keep_drew | apply keep_alloc) | exact HK.out)⟩

-- NOT PRINTED: function 24 (replica_Replica_begin)

-- NOT PRINTED: function 15 (replica_Replica_want)

/-! ### wire_Number: function 17 -/
def wire_Number.f (a0 : Int) : Option (ByteArray) := if a0 < 0 then (some (strOfNums (([0 / 16777216, 0 / 65536, 0 / 256, 0] : List Int)))) else (if a0 > 2147483647 then (some (strOfNums (([0 / 16777216, 0 / 65536, 0 / 256, 0] : List Int)))) else (some (strOfNums (([(a0 / 16777216) % 256, (a0 / 65536) % 256, (a0 / 256) % 256, (a0) % 256] : List Int)))))
set_option maxHeartbeats 8000000 in
set_option maxRecDepth 100000 in
theorem wire_Number.calls (a0 : Int) (r : ByteArray) (w : World) (h : wire_Number.f a0 = some r) :
    Calls Try.prog 17 #[.int .i64 a0] w fun e w' => e = .returned (.string r) ∧ Below w.heap.size w w' := by
  have HB := Aside0.mk (Below.refl w.heap.size w)
  have H : (if a0 < 0 then (some (strOfNums (([0 / 16777216, 0 / 65536, 0 / 256, 0] : List Int)))) else (if a0 > 2147483647 then (some (strOfNums (([0 / 16777216, 0 / 65536, 0 / 256, 0] : List Int)))) else (some (strOfNums (([(a0 / 16777216) % 256, (a0 / 65536) % 256, (a0 / 256) % 256, (a0) % 256] : List Int)))))) = some r := h
  clear h
  by_cases c2 : a0 < 0
  · rw [if_pos c2] at H
    have c2b0 : decide (a0 < 0) = true := decide_eq_true c2
    clear c2
    obtain ⟨y104, hy104⟩ : ∃ y_ : List Int, y_ = (([0 / 16777216, 0 / 65536, 0 / 256, 0] : List Int)) := ⟨_, rfl⟩
    replace H : (some (strOfNums y104)) = some r := by first | (rw [hy104]; with_reducible exact H) | (have H2_ := (Option.bind_some _ _).symm.trans H; rw [hy104]; with_reducible exact H2_) | (have H2_ := (Option.bind_some _ _).symm.trans H; with_reducible exact H2_) | with_reducible exact H | (rw [hy104]; exact H) | exact H
    have Ny104 := Aside0.mk hy104
    clear hy104
    obtain rfl := Option.some.inj H
    go_enter Try.func17, Try.ntmps17
    go_wp2_with (first | ((with_reducible refine gate_dst (N := 20) rfl ?_); refine Kd.R_lit (Kd.int .u8) _ 5 ?hg (N := 20) ?hd (xs := ([0 / 16777216, 0 / 65536, 0 / 256, 0] : List Int)) (inner := [.int .u8 (0 / 16777216), .int .u8 (0 / 65536), .int .u8 (0 / 256), .int .u8 0]) (ok := fun _ => True) (okp := fun _ => True) ?hr ?hp (fun _ hk => hk) trivial (Below.refl _ _) (Nat.le_refl _) (by simp) ?_; (case hd => rfl); (case hg => rfl); (case hr => first | (go_simp; done) | (go_simp; rfl)); (case hp => exact (Reps.one (show Kd.M (Kd.int .u8) _ _ _ (0 / 16777216) [.int .u8 (0 / 16777216)] from rfl) (Reps.one (show Kd.M (Kd.int .u8) _ _ _ (0 / 65536) [.int .u8 (0 / 65536)] from rfl) (Reps.one (show Kd.M (Kd.int .u8) _ _ _ (0 / 256) [.int .u8 (0 / 256)] from rfl) (Reps.one (show Kd.M (Kd.int .u8) _ _ _ 0 [.int .u8 0] from rfl) (Reps.none _ _)))))); intro v105 w3 ho4 hb hg_ hnew_; clear hg_ hnew_; (first | rw [← Ny104.out] at ho4 | (simp only [Int.reduceToNat] at ho4; rw [← Ny104.out] at ho4)); have n0_ := Aside0.mk (Kd.R_lower ho4 (below_size (by repeat (first | (with_reducible first | exact HB.out | apply below_alloc | apply pw_below_drewN | apply below_drew1) | exact HB.out)))); have n1_ := Aside0.mk (below_step (by repeat (first | (with_reducible first | exact HB.out | apply below_alloc | apply pw_below_drewN | apply below_drew1) | exact HB.out)) hb); clear HB; have HO106 := n0_; have HB := n1_; clear n0_ n1_; clear hb ho4; have hcv5 := own_string (P := Try.prog) Try.underlying77 Try.underlying5 Try.underlying9 (Kd.own_of_R HO106.out)))
    go_ret
    exact ⟨by first | rfl | (simp [errW_none, errW_some] <;> rfl) | (simp [*, errW_none, errW_some] <;> rfl), by repeat (first | (with_reducible first | exact HB.out | apply below_alloc | apply pw_below_drewN | apply below_drew1) | exact HB.out)⟩
  · rw [if_neg c2] at H
    have c2b0 : decide (a0 < 0) = false := decide_eq_false c2
    clear c2
    by_cases c6 : a0 > 2147483647
    · rw [if_pos c6] at H
      have c6b0 : decide (2147483647 < a0) = true := decide_eq_true c6
      clear c6
      obtain ⟨y107, hy107⟩ : ∃ y_ : List Int, y_ = (([0 / 16777216, 0 / 65536, 0 / 256, 0] : List Int)) := ⟨_, rfl⟩
      replace H : (some (strOfNums y107)) = some r := by first | (rw [hy107]; with_reducible exact H) | (have H2_ := (Option.bind_some _ _).symm.trans H; rw [hy107]; with_reducible exact H2_) | (have H2_ := (Option.bind_some _ _).symm.trans H; with_reducible exact H2_) | with_reducible exact H | (rw [hy107]; exact H) | exact H
      have Ny107 := Aside0.mk hy107
      clear hy107
      obtain rfl := Option.some.inj H
      go_enter Try.func17, Try.ntmps17
      go_wp2_with (first | ((with_reducible refine gate_dst (N := 20) rfl ?_); refine Kd.R_lit (Kd.int .u8) _ 5 ?hg (N := 20) ?hd (xs := ([0 / 16777216, 0 / 65536, 0 / 256, 0] : List Int)) (inner := [.int .u8 (0 / 16777216), .int .u8 (0 / 65536), .int .u8 (0 / 256), .int .u8 0]) (ok := fun _ => True) (okp := fun _ => True) ?hr ?hp (fun _ hk => hk) trivial (Below.refl _ _) (Nat.le_refl _) (by simp) ?_; (case hd => rfl); (case hg => rfl); (case hr => first | (go_simp; done) | (go_simp; rfl)); (case hp => exact (Reps.one (show Kd.M (Kd.int .u8) _ _ _ (0 / 16777216) [.int .u8 (0 / 16777216)] from rfl) (Reps.one (show Kd.M (Kd.int .u8) _ _ _ (0 / 65536) [.int .u8 (0 / 65536)] from rfl) (Reps.one (show Kd.M (Kd.int .u8) _ _ _ (0 / 256) [.int .u8 (0 / 256)] from rfl) (Reps.one (show Kd.M (Kd.int .u8) _ _ _ 0 [.int .u8 0] from rfl) (Reps.none _ _)))))); intro v108 w7 ho8 hb hg_ hnew_; clear hg_ hnew_; (first | rw [← Ny107.out] at ho8 | (simp only [Int.reduceToNat] at ho8; rw [← Ny107.out] at ho8)); have n0_ := Aside0.mk (Kd.R_lower ho8 (below_size (by repeat (first | (with_reducible first | exact HB.out | apply below_alloc | apply pw_below_drewN | apply below_drew1) | exact HB.out)))); have n1_ := Aside0.mk (below_step (by repeat (first | (with_reducible first | exact HB.out | apply below_alloc | apply pw_below_drewN | apply below_drew1) | exact HB.out)) hb); clear HB; have HO109 := n0_; have HB := n1_; clear n0_ n1_; clear hb ho8; have hcv9 := own_string (P := Try.prog) Try.underlying77 Try.underlying5 Try.underlying9 (Kd.own_of_R HO109.out)))
      go_ret
      exact ⟨by first | rfl | (simp [errW_none, errW_some] <;> rfl) | (simp [*, errW_none, errW_some] <;> rfl), by repeat (first | (with_reducible first | exact HB.out | apply below_alloc | apply pw_below_drewN | apply below_drew1) | exact HB.out)⟩
    · rw [if_neg c6] at H
      have c6b0 : decide (2147483647 < a0) = false := decide_eq_false c6
      clear c6
      obtain ⟨y110, hy110⟩ : ∃ y_ : List Int, y_ = (([(a0 / 16777216) % 256, (a0 / 65536) % 256, (a0 / 256) % 256, (a0) % 256] : List Int)) := ⟨_, rfl⟩
      replace H : (some (strOfNums y110)) = some r := by first | (rw [hy110]; with_reducible exact H) | (have H2_ := (Option.bind_some _ _).symm.trans H; rw [hy110]; with_reducible exact H2_) | (have H2_ := (Option.bind_some _ _).symm.trans H; with_reducible exact H2_) | with_reducible exact H | (rw [hy110]; exact H) | exact H
      have Ny110 := Aside0.mk hy110
      clear hy110
      obtain rfl := Option.some.inj H
      go_enter Try.func17, Try.ntmps17
      go_wp2_with (first | ((with_reducible refine gate_dst (N := 20) rfl ?_); refine Kd.R_lit (Kd.int .u8) _ 5 ?hg (N := 20) ?hd (xs := ([(a0 / 16777216) % 256, (a0 / 65536) % 256, (a0 / 256) % 256, (a0) % 256] : List Int)) (inner := [.int .u8 ((a0 / 16777216) % 256), .int .u8 ((a0 / 65536) % 256), .int .u8 ((a0 / 256) % 256), .int .u8 ((a0) % 256)]) (ok := fun _ => True) (okp := fun _ => True) ?hr ?hp (fun _ hk => hk) trivial (Below.refl _ _) (Nat.le_refl _) (by simp) ?_; (case hd => rfl); (case hg => rfl); (case hr => first | (go_simp; done) | (go_simp; rfl)); (case hp => exact (Reps.one (show Kd.M (Kd.int .u8) _ _ _ ((a0 / 16777216) % 256) [.int .u8 ((a0 / 16777216) % 256)] from rfl) (Reps.one (show Kd.M (Kd.int .u8) _ _ _ ((a0 / 65536) % 256) [.int .u8 ((a0 / 65536) % 256)] from rfl) (Reps.one (show Kd.M (Kd.int .u8) _ _ _ ((a0 / 256) % 256) [.int .u8 ((a0 / 256) % 256)] from rfl) (Reps.one (show Kd.M (Kd.int .u8) _ _ _ ((a0) % 256) [.int .u8 ((a0) % 256)] from rfl) (Reps.none _ _)))))); intro v111 w10 ho11 hb hg_ hnew_; clear hg_ hnew_; (first | rw [← Ny110.out] at ho11 | (simp only [Int.reduceToNat] at ho11; rw [← Ny110.out] at ho11)); have n0_ := Aside0.mk (Kd.R_lower ho11 (below_size (by repeat (first | (with_reducible first | exact HB.out | apply below_alloc | apply pw_below_drewN | apply below_drew1) | exact HB.out)))); have n1_ := Aside0.mk (below_step (by repeat (first | (with_reducible first | exact HB.out | apply below_alloc | apply pw_below_drewN | apply below_drew1) | exact HB.out)) hb); clear HB; have HO112 := n0_; have HB := n1_; clear n0_ n1_; clear hb ho11; have hcv12 := own_string (P := Try.prog) Try.underlying77 Try.underlying5 Try.underlying9 (Kd.own_of_R HO112.out)))
      go_ret
      exact ⟨by first | rfl | (simp [errW_none, errW_some] <;> rfl) | (simp [*, errW_none, errW_some] <;> rfl), by repeat (first | (with_reducible first | exact HB.out | apply below_alloc | apply pw_below_drewN | apply below_drew1) | exact HB.out)⟩

-- NOT PRINTED: function 8 (replica_Replica_Cut)

-- NOT PRINTED: function 4 (annalistlaw20_awake)

end Go.Proofs.Ythedebalecnldaa.PReplicaArgs
namespace Go.Proofs.Ythedebalecnldaa.PReplicaArgs
open Go.RowKit Go.Proofs.YthedebalecnldaaW.PrintWords Go.Proofs.YthedebalecnldaaW.PrintLast Go.Proofs.YthedebalecnldaaW.PrintMore
attribute [local go_sem] max2_int min2_int max_two min_two max_three min_three max_four min_four   -- for this text's walks alone
set_option linter.unusedVariables false
set_option linter.unusedSimpArgs false

/-! ### wire_Right: function 14 -/
def wire_Right.f (a0_0 : Int) (a0_1 : Int) (a0_2 : ByteArray) (a0_3 : ByteArray) (a0_4 : ByteArray) : Option (Bool) := if a0_0 ≥ 0 then (if a0_0 < 4 then (if a0_1 ≥ 1 then (if a0_1 ≤ 2147483647 then (if (a0_2.size : Int) ≥ 1 then (if (a0_2.size : Int) ≤ 200 then (if (a0_3.size : Int) ≤ 50 then (if (a0_4.size : Int) ≤ 100 then (if a0_3.toList = ([] : List UInt8) then (some (a0_4.toList == ([] : List UInt8))) else (some true)) else (some false)) else (some false)) else (some false)) else (some false)) else (some false)) else (some false)) else (some false)) else (some false)
set_option maxHeartbeats 8000000 in
set_option maxRecDepth 100000 in
theorem wire_Right.calls (a0_0 : Int) (a0_1 : Int) (a0_2 : ByteArray) (a0_3 : ByteArray) (a0_4 : ByteArray) (r : Bool) (w : World) (h : wire_Right.f a0_0 a0_1 a0_2 a0_3 a0_4 = some r) :
    Calls Try.prog 14 #[.agg #[.int .i64 a0_0, .int .i64 a0_1, .string a0_2, .string a0_3, .string a0_4]] w fun e w' => e = .returned (.bool r) ∧ Below w.heap.size w w' := by
  have hu24 := Try.underlying24
  have HB := Aside0.mk (Below.refl w.heap.size w)
  have H : (if a0_0 ≥ 0 then (if a0_0 < 4 then (if a0_1 ≥ 1 then (if a0_1 ≤ 2147483647 then (if (a0_2.size : Int) ≥ 1 then (if (a0_2.size : Int) ≤ 200 then (if (a0_3.size : Int) ≤ 50 then (if (a0_4.size : Int) ≤ 100 then (if a0_3.toList = ([] : List UInt8) then (some (a0_4.toList == ([] : List UInt8))) else (some true)) else (some false)) else (some false)) else (some false)) else (some false)) else (some false)) else (some false)) else (some false)) else (some false)) = some r := h
  clear h
  by_cases c2 : a0_0 ≥ 0
  · rw [if_pos c2] at H
    have c2b0 : decide (0 ≤ a0_0) = true := decide_eq_true c2
    clear c2
    by_cases c3 : a0_0 < 4
    · rw [if_pos c3] at H
      have c3b0 : decide (a0_0 < 4) = true := decide_eq_true c3
      clear c3
      by_cases c4 : a0_1 ≥ 1
      · rw [if_pos c4] at H
        have c4b0 : decide (1 ≤ a0_1) = true := decide_eq_true c4
        clear c4
        by_cases c5 : a0_1 ≤ 2147483647
        · rw [if_pos c5] at H
          have c5b0 : decide (a0_1 ≤ 2147483647) = true := decide_eq_true c5
          clear c5
          by_cases c6 : (a0_2.size : Int) ≥ 1
          · rw [if_pos c6] at H
            have c6b0 : decide (1 ≤ (a0_2.size : Int)) = true := decide_eq_true c6
            have c6b1 : decide (1 ≤ a0_2.size) = true := decide_eq_true (by omega)
            clear c6
            by_cases c7 : (a0_2.size : Int) ≤ 200
            · rw [if_pos c7] at H
              have c7b0 : decide ((a0_2.size : Int) ≤ 200) = true := decide_eq_true c7
              have c7b1 : decide (a0_2.size ≤ 200) = true := decide_eq_true (by omega)
              clear c7
              by_cases c8 : (a0_3.size : Int) ≤ 50
              · rw [if_pos c8] at H
                have c8b0 : decide ((a0_3.size : Int) ≤ 50) = true := decide_eq_true c8
                have c8b1 : decide (a0_3.size ≤ 50) = true := decide_eq_true (by omega)
                clear c8
                by_cases c9 : (a0_4.size : Int) ≤ 100
                · rw [if_pos c9] at H
                  have c9b0 : decide ((a0_4.size : Int) ≤ 100) = true := decide_eq_true c9
                  have c9b1 : decide (a0_4.size ≤ 100) = true := decide_eq_true (by omega)
                  clear c9
                  by_cases c10 : a0_3.toList = ([] : List UInt8)
                  · rw [if_pos c10] at H
                    have c10b0 : (a0_3.toList == ([] : List UInt8)) = true := beq_iff_eq.mpr c10
                    have c10b1 : (a0_3.toList != ([] : List UInt8)) = false := bne_eq_false_iff_eq.mpr c10
                    clear c10
                    obtain rfl := Option.some.inj H
                    go_enter Try.func14, Try.ntmps14
                    go_wp2_with (first | ((with_reducible refine gate_dst (N := 1) rfl ?_); (try (refine gate_guard (by rfl) ?_; dsimp only)); refine box_event ?hg (N := 1) ?hd (cs := #[.int .i64 a0_0, .int .i64 a0_1, .string a0_2, .string a0_3, .string a0_4]) (t := 24) ?hr ?_; (case hd => rfl); (case hg => rfl); (case hr => first | (go_simp; done) | (go_simp; rfl)); intro gb113 hg w11 hbox hb; have n0_ := Aside0.mk (below_step (by repeat (first | (with_reducible first | exact HB.out | apply below_alloc | apply pw_below_drewN | apply below_drew1) | exact HB.out)) hb); have n1_ := Aside0.mk (hbox); have n2_ := Aside0.mk ((by rw [hg]; exact (below_size (by repeat (first | (with_reducible first | exact HB.out | apply below_alloc | apply pw_below_drewN | apply below_drew1) | exact HB.out))) : w.heap.size ≤ gb113)); have n3_ := Aside0.mk ((by rw [hg]; exact (below_size (by repeat (first | (with_reducible first | exact HB.out | apply below_alloc | apply pw_below_drewN | apply below_drew1) | exact HB.out))) : w.heap.size ≤ gb113)); clear HB; have HB := n0_; have BK113 := n1_; have GW113 := n2_; have GE113 := n3_; clear n0_ n1_ n2_ n3_; clear hb hbox hg; have hcz12_0 : w11.cell? ⟨gb113, 0, none⟩ = some (.int .i64 a0_0) := (blk_cell BK113.out 0).trans rfl; have hcz12_1 : w11.cell? ⟨gb113, 1, none⟩ = some (.int .i64 a0_1) := (blk_cell BK113.out 1).trans rfl; have hcz12_2 : w11.cell? ⟨gb113, 2, none⟩ = some (.string a0_2) := (blk_cell BK113.out 2).trans rfl; have hcz12_3 : w11.cell? ⟨gb113, 3, none⟩ = some (.string a0_3) := (blk_cell BK113.out 3).trans rfl; have hcz12_4 : w11.cell? ⟨gb113, 4, none⟩ = some (.string a0_4) := (blk_cell BK113.out 4).trans rfl; have hfz12_0 := blk_frozen BK113.out 0; have hfz12_1 := blk_frozen BK113.out 1; have hfz12_2 := blk_frozen BK113.out 2; have hfz12_3 := blk_frozen BK113.out 3; have hfz12_4 := blk_frozen BK113.out 4))
                    go_ret
                    exact ⟨by first | rfl | (simp [errW_none, errW_some] <;> rfl) | (simp [*, errW_none, errW_some] <;> rfl), by repeat (first | (with_reducible first | exact HB.out | apply below_alloc | apply pw_below_drewN | apply below_drew1 | refine below_set ?_ GE113.out) | exact HB.out)⟩
                  · rw [if_neg c10] at H
                    have c10b0 : (a0_3.toList == ([] : List UInt8)) = false := beq_eq_false_iff_ne.mpr c10
                    have c10b1 : (a0_3.toList != ([] : List UInt8)) = true := bne_iff_ne.mpr c10
                    obtain rfl := Option.some.inj H
                    go_enter Try.func14, Try.ntmps14
                    go_wp2_with (first | ((with_reducible refine gate_dst (N := 1) rfl ?_); (try (refine gate_guard (by rfl) ?_; dsimp only)); refine box_event ?hg (N := 1) ?hd (cs := #[.int .i64 a0_0, .int .i64 a0_1, .string a0_2, .string a0_3, .string a0_4]) (t := 24) ?hr ?_; (case hd => rfl); (case hg => rfl); (case hr => first | (go_simp; done) | (go_simp; rfl)); intro gb113 hg w13 hbox hb; have n0_ := Aside0.mk (below_step (by repeat (first | (with_reducible first | exact HB.out | apply below_alloc | apply pw_below_drewN | apply below_drew1) | exact HB.out)) hb); have n1_ := Aside0.mk (hbox); have n2_ := Aside0.mk ((by rw [hg]; exact (below_size (by repeat (first | (with_reducible first | exact HB.out | apply below_alloc | apply pw_below_drewN | apply below_drew1) | exact HB.out))) : w.heap.size ≤ gb113)); have n3_ := Aside0.mk ((by rw [hg]; exact (below_size (by repeat (first | (with_reducible first | exact HB.out | apply below_alloc | apply pw_below_drewN | apply below_drew1) | exact HB.out))) : w.heap.size ≤ gb113)); clear HB; have HB := n0_; have BK113 := n1_; have GW113 := n2_; have GE113 := n3_; clear n0_ n1_ n2_ n3_; clear hb hbox hg; have hcz14_0 : w13.cell? ⟨gb113, 0, none⟩ = some (.int .i64 a0_0) := (blk_cell BK113.out 0).trans rfl; have hcz14_1 : w13.cell? ⟨gb113, 1, none⟩ = some (.int .i64 a0_1) := (blk_cell BK113.out 1).trans rfl; have hcz14_2 : w13.cell? ⟨gb113, 2, none⟩ = some (.string a0_2) := (blk_cell BK113.out 2).trans rfl; have hcz14_3 : w13.cell? ⟨gb113, 3, none⟩ = some (.string a0_3) := (blk_cell BK113.out 3).trans rfl; have hcz14_4 : w13.cell? ⟨gb113, 4, none⟩ = some (.string a0_4) := (blk_cell BK113.out 4).trans rfl; have hfz14_0 := blk_frozen BK113.out 0; have hfz14_1 := blk_frozen BK113.out 1; have hfz14_2 := blk_frozen BK113.out 2; have hfz14_3 := blk_frozen BK113.out 3; have hfz14_4 := blk_frozen BK113.out 4))
                    go_ret
                    exact ⟨by first | rfl | (simp [errW_none, errW_some] <;> rfl) | (simp [*, errW_none, errW_some] <;> rfl), by repeat (first | (with_reducible first | exact HB.out | apply below_alloc | apply pw_below_drewN | apply below_drew1 | refine below_set ?_ GE113.out) | exact HB.out)⟩
                · rw [if_neg c9] at H
                  have c9b0 : decide ((a0_4.size : Int) ≤ 100) = false := decide_eq_false c9
                  have c9b1 : decide (a0_4.size ≤ 100) = false := decide_eq_false (by omega)
                  clear c9
                  obtain rfl := Option.some.inj H
                  go_enter Try.func14, Try.ntmps14
                  go_wp2_with (first | ((with_reducible refine gate_dst (N := 1) rfl ?_); (try (refine gate_guard (by rfl) ?_; dsimp only)); refine box_event ?hg (N := 1) ?hd (cs := #[.int .i64 a0_0, .int .i64 a0_1, .string a0_2, .string a0_3, .string a0_4]) (t := 24) ?hr ?_; (case hd => rfl); (case hg => rfl); (case hr => first | (go_simp; done) | (go_simp; rfl)); intro gb113 hg w15 hbox hb; have n0_ := Aside0.mk (below_step (by repeat (first | (with_reducible first | exact HB.out | apply below_alloc | apply pw_below_drewN | apply below_drew1) | exact HB.out)) hb); have n1_ := Aside0.mk (hbox); have n2_ := Aside0.mk ((by rw [hg]; exact (below_size (by repeat (first | (with_reducible first | exact HB.out | apply below_alloc | apply pw_below_drewN | apply below_drew1) | exact HB.out))) : w.heap.size ≤ gb113)); have n3_ := Aside0.mk ((by rw [hg]; exact (below_size (by repeat (first | (with_reducible first | exact HB.out | apply below_alloc | apply pw_below_drewN | apply below_drew1) | exact HB.out))) : w.heap.size ≤ gb113)); clear HB; have HB := n0_; have BK113 := n1_; have GW113 := n2_; have GE113 := n3_; clear n0_ n1_ n2_ n3_; clear hb hbox hg; have hcz16_0 : w15.cell? ⟨gb113, 0, none⟩ = some (.int .i64 a0_0) := (blk_cell BK113.out 0).trans rfl; have hcz16_1 : w15.cell? ⟨gb113, 1, none⟩ = some (.int .i64 a0_1) := (blk_cell BK113.out 1).trans rfl; have hcz16_2 : w15.cell? ⟨gb113, 2, none⟩ = some (.string a0_2) := (blk_cell BK113.out 2).trans rfl; have hcz16_3 : w15.cell? ⟨gb113, 3, none⟩ = some (.string a0_3) := (blk_cell BK113.out 3).trans rfl; have hcz16_4 : w15.cell? ⟨gb113, 4, none⟩ = some (.string a0_4) := (blk_cell BK113.out 4).trans rfl; have hfz16_0 := blk_frozen BK113.out 0; have hfz16_1 := blk_frozen BK113.out 1; have hfz16_2 := blk_frozen BK113.out 2; have hfz16_3 := blk_frozen BK113.out 3; have hfz16_4 := blk_frozen BK113.out 4))
                  go_ret
                  exact ⟨by first | rfl | (simp [errW_none, errW_some] <;> rfl) | (simp [*, errW_none, errW_some] <;> rfl), by repeat (first | (with_reducible first | exact HB.out | apply below_alloc | apply pw_below_drewN | apply below_drew1 | refine below_set ?_ GE113.out) | exact HB.out)⟩
              · rw [if_neg c8] at H
                have c8b0 : decide ((a0_3.size : Int) ≤ 50) = false := decide_eq_false c8
                have c8b1 : decide (a0_3.size ≤ 50) = false := decide_eq_false (by omega)
                clear c8
                obtain rfl := Option.some.inj H
                go_enter Try.func14, Try.ntmps14
                go_wp2_with (first | ((with_reducible refine gate_dst (N := 1) rfl ?_); (try (refine gate_guard (by rfl) ?_; dsimp only)); refine box_event ?hg (N := 1) ?hd (cs := #[.int .i64 a0_0, .int .i64 a0_1, .string a0_2, .string a0_3, .string a0_4]) (t := 24) ?hr ?_; (case hd => rfl); (case hg => rfl); (case hr => first | (go_simp; done) | (go_simp; rfl)); intro gb113 hg w17 hbox hb; have n0_ := Aside0.mk (below_step (by repeat (first | (with_reducible first | exact HB.out | apply below_alloc | apply pw_below_drewN | apply below_drew1) | exact HB.out)) hb); have n1_ := Aside0.mk (hbox); have n2_ := Aside0.mk ((by rw [hg]; exact (below_size (by repeat (first | (with_reducible first | exact HB.out | apply below_alloc | apply pw_below_drewN | apply below_drew1) | exact HB.out))) : w.heap.size ≤ gb113)); have n3_ := Aside0.mk ((by rw [hg]; exact (below_size (by repeat (first | (with_reducible first | exact HB.out | apply below_alloc | apply pw_below_drewN | apply below_drew1) | exact HB.out))) : w.heap.size ≤ gb113)); clear HB; have HB := n0_; have BK113 := n1_; have GW113 := n2_; have GE113 := n3_; clear n0_ n1_ n2_ n3_; clear hb hbox hg; have hcz18_0 : w17.cell? ⟨gb113, 0, none⟩ = some (.int .i64 a0_0) := (blk_cell BK113.out 0).trans rfl; have hcz18_1 : w17.cell? ⟨gb113, 1, none⟩ = some (.int .i64 a0_1) := (blk_cell BK113.out 1).trans rfl; have hcz18_2 : w17.cell? ⟨gb113, 2, none⟩ = some (.string a0_2) := (blk_cell BK113.out 2).trans rfl; have hcz18_3 : w17.cell? ⟨gb113, 3, none⟩ = some (.string a0_3) := (blk_cell BK113.out 3).trans rfl; have hcz18_4 : w17.cell? ⟨gb113, 4, none⟩ = some (.string a0_4) := (blk_cell BK113.out 4).trans rfl; have hfz18_0 := blk_frozen BK113.out 0; have hfz18_1 := blk_frozen BK113.out 1; have hfz18_2 := blk_frozen BK113.out 2; have hfz18_3 := blk_frozen BK113.out 3; have hfz18_4 := blk_frozen BK113.out 4))
                go_ret
                exact ⟨by first | rfl | (simp [errW_none, errW_some] <;> rfl) | (simp [*, errW_none, errW_some] <;> rfl), by repeat (first | (with_reducible first | exact HB.out | apply below_alloc | apply pw_below_drewN | apply below_drew1 | refine below_set ?_ GE113.out) | exact HB.out)⟩
            · rw [if_neg c7] at H
              have c7b0 : decide ((a0_2.size : Int) ≤ 200) = false := decide_eq_false c7
              have c7b1 : decide (a0_2.size ≤ 200) = false := decide_eq_false (by omega)
              clear c7
              obtain rfl := Option.some.inj H
              go_enter Try.func14, Try.ntmps14
              go_wp2_with (first | ((with_reducible refine gate_dst (N := 1) rfl ?_); (try (refine gate_guard (by rfl) ?_; dsimp only)); refine box_event ?hg (N := 1) ?hd (cs := #[.int .i64 a0_0, .int .i64 a0_1, .string a0_2, .string a0_3, .string a0_4]) (t := 24) ?hr ?_; (case hd => rfl); (case hg => rfl); (case hr => first | (go_simp; done) | (go_simp; rfl)); intro gb113 hg w19 hbox hb; have n0_ := Aside0.mk (below_step (by repeat (first | (with_reducible first | exact HB.out | apply below_alloc | apply pw_below_drewN | apply below_drew1) | exact HB.out)) hb); have n1_ := Aside0.mk (hbox); have n2_ := Aside0.mk ((by rw [hg]; exact (below_size (by repeat (first | (with_reducible first | exact HB.out | apply below_alloc | apply pw_below_drewN | apply below_drew1) | exact HB.out))) : w.heap.size ≤ gb113)); have n3_ := Aside0.mk ((by rw [hg]; exact (below_size (by repeat (first | (with_reducible first | exact HB.out | apply below_alloc | apply pw_below_drewN | apply below_drew1) | exact HB.out))) : w.heap.size ≤ gb113)); clear HB; have HB := n0_; have BK113 := n1_; have GW113 := n2_; have GE113 := n3_; clear n0_ n1_ n2_ n3_; clear hb hbox hg; have hcz20_0 : w19.cell? ⟨gb113, 0, none⟩ = some (.int .i64 a0_0) := (blk_cell BK113.out 0).trans rfl; have hcz20_1 : w19.cell? ⟨gb113, 1, none⟩ = some (.int .i64 a0_1) := (blk_cell BK113.out 1).trans rfl; have hcz20_2 : w19.cell? ⟨gb113, 2, none⟩ = some (.string a0_2) := (blk_cell BK113.out 2).trans rfl; have hcz20_3 : w19.cell? ⟨gb113, 3, none⟩ = some (.string a0_3) := (blk_cell BK113.out 3).trans rfl; have hcz20_4 : w19.cell? ⟨gb113, 4, none⟩ = some (.string a0_4) := (blk_cell BK113.out 4).trans rfl; have hfz20_0 := blk_frozen BK113.out 0; have hfz20_1 := blk_frozen BK113.out 1; have hfz20_2 := blk_frozen BK113.out 2; have hfz20_3 := blk_frozen BK113.out 3; have hfz20_4 := blk_frozen BK113.out 4))
              go_ret
              exact ⟨by first | rfl | (simp [errW_none, errW_some] <;> rfl) | (simp [*, errW_none, errW_some] <;> rfl), by repeat (first | (with_reducible first | exact HB.out | apply below_alloc | apply pw_below_drewN | apply below_drew1 | refine below_set ?_ GE113.out) | exact HB.out)⟩
          · rw [if_neg c6] at H
            have c6b0 : decide (1 ≤ (a0_2.size : Int)) = false := decide_eq_false c6
            have c6b1 : decide (1 ≤ a0_2.size) = false := decide_eq_false (by omega)
            clear c6
            obtain rfl := Option.some.inj H
            go_enter Try.func14, Try.ntmps14
            go_wp2_with (first | ((with_reducible refine gate_dst (N := 1) rfl ?_); (try (refine gate_guard (by rfl) ?_; dsimp only)); refine box_event ?hg (N := 1) ?hd (cs := #[.int .i64 a0_0, .int .i64 a0_1, .string a0_2, .string a0_3, .string a0_4]) (t := 24) ?hr ?_; (case hd => rfl); (case hg => rfl); (case hr => first | (go_simp; done) | (go_simp; rfl)); intro gb113 hg w21 hbox hb; have n0_ := Aside0.mk (below_step (by repeat (first | (with_reducible first | exact HB.out | apply below_alloc | apply pw_below_drewN | apply below_drew1) | exact HB.out)) hb); have n1_ := Aside0.mk (hbox); have n2_ := Aside0.mk ((by rw [hg]; exact (below_size (by repeat (first | (with_reducible first | exact HB.out | apply below_alloc | apply pw_below_drewN | apply below_drew1) | exact HB.out))) : w.heap.size ≤ gb113)); have n3_ := Aside0.mk ((by rw [hg]; exact (below_size (by repeat (first | (with_reducible first | exact HB.out | apply below_alloc | apply pw_below_drewN | apply below_drew1) | exact HB.out))) : w.heap.size ≤ gb113)); clear HB; have HB := n0_; have BK113 := n1_; have GW113 := n2_; have GE113 := n3_; clear n0_ n1_ n2_ n3_; clear hb hbox hg; have hcz22_0 : w21.cell? ⟨gb113, 0, none⟩ = some (.int .i64 a0_0) := (blk_cell BK113.out 0).trans rfl; have hcz22_1 : w21.cell? ⟨gb113, 1, none⟩ = some (.int .i64 a0_1) := (blk_cell BK113.out 1).trans rfl; have hcz22_2 : w21.cell? ⟨gb113, 2, none⟩ = some (.string a0_2) := (blk_cell BK113.out 2).trans rfl; have hcz22_3 : w21.cell? ⟨gb113, 3, none⟩ = some (.string a0_3) := (blk_cell BK113.out 3).trans rfl; have hcz22_4 : w21.cell? ⟨gb113, 4, none⟩ = some (.string a0_4) := (blk_cell BK113.out 4).trans rfl; have hfz22_0 := blk_frozen BK113.out 0; have hfz22_1 := blk_frozen BK113.out 1; have hfz22_2 := blk_frozen BK113.out 2; have hfz22_3 := blk_frozen BK113.out 3; have hfz22_4 := blk_frozen BK113.out 4))
            go_ret
            exact ⟨by first | rfl | (simp [errW_none, errW_some] <;> rfl) | (simp [*, errW_none, errW_some] <;> rfl), by repeat (first | (with_reducible first | exact HB.out | apply below_alloc | apply pw_below_drewN | apply below_drew1 | refine below_set ?_ GE113.out) | exact HB.out)⟩
        · rw [if_neg c5] at H
          have c5b0 : decide (a0_1 ≤ 2147483647) = false := decide_eq_false c5
          clear c5
          obtain rfl := Option.some.inj H
          go_enter Try.func14, Try.ntmps14
          go_wp2_with (first | ((with_reducible refine gate_dst (N := 1) rfl ?_); (try (refine gate_guard (by rfl) ?_; dsimp only)); refine box_event ?hg (N := 1) ?hd (cs := #[.int .i64 a0_0, .int .i64 a0_1, .string a0_2, .string a0_3, .string a0_4]) (t := 24) ?hr ?_; (case hd => rfl); (case hg => rfl); (case hr => first | (go_simp; done) | (go_simp; rfl)); intro gb113 hg w23 hbox hb; have n0_ := Aside0.mk (below_step (by repeat (first | (with_reducible first | exact HB.out | apply below_alloc | apply pw_below_drewN | apply below_drew1) | exact HB.out)) hb); have n1_ := Aside0.mk (hbox); have n2_ := Aside0.mk ((by rw [hg]; exact (below_size (by repeat (first | (with_reducible first | exact HB.out | apply below_alloc | apply pw_below_drewN | apply below_drew1) | exact HB.out))) : w.heap.size ≤ gb113)); have n3_ := Aside0.mk ((by rw [hg]; exact (below_size (by repeat (first | (with_reducible first | exact HB.out | apply below_alloc | apply pw_below_drewN | apply below_drew1) | exact HB.out))) : w.heap.size ≤ gb113)); clear HB; have HB := n0_; have BK113 := n1_; have GW113 := n2_; have GE113 := n3_; clear n0_ n1_ n2_ n3_; clear hb hbox hg; have hcz24_0 : w23.cell? ⟨gb113, 0, none⟩ = some (.int .i64 a0_0) := (blk_cell BK113.out 0).trans rfl; have hcz24_1 : w23.cell? ⟨gb113, 1, none⟩ = some (.int .i64 a0_1) := (blk_cell BK113.out 1).trans rfl; have hcz24_2 : w23.cell? ⟨gb113, 2, none⟩ = some (.string a0_2) := (blk_cell BK113.out 2).trans rfl; have hcz24_3 : w23.cell? ⟨gb113, 3, none⟩ = some (.string a0_3) := (blk_cell BK113.out 3).trans rfl; have hcz24_4 : w23.cell? ⟨gb113, 4, none⟩ = some (.string a0_4) := (blk_cell BK113.out 4).trans rfl; have hfz24_0 := blk_frozen BK113.out 0; have hfz24_1 := blk_frozen BK113.out 1; have hfz24_2 := blk_frozen BK113.out 2; have hfz24_3 := blk_frozen BK113.out 3; have hfz24_4 := blk_frozen BK113.out 4))
          go_ret
          exact ⟨by first | rfl | (simp [errW_none, errW_some] <;> rfl) | (simp [*, errW_none, errW_some] <;> rfl), by repeat (first | (with_reducible first | exact HB.out | apply below_alloc | apply pw_below_drewN | apply below_drew1 | refine below_set ?_ GE113.out) | exact HB.out)⟩
      · rw [if_neg c4] at H
        have c4b0 : decide (1 ≤ a0_1) = false := decide_eq_false c4
        clear c4
        obtain rfl := Option.some.inj H
        go_enter Try.func14, Try.ntmps14
        go_wp2_with (first | ((with_reducible refine gate_dst (N := 1) rfl ?_); (try (refine gate_guard (by rfl) ?_; dsimp only)); refine box_event ?hg (N := 1) ?hd (cs := #[.int .i64 a0_0, .int .i64 a0_1, .string a0_2, .string a0_3, .string a0_4]) (t := 24) ?hr ?_; (case hd => rfl); (case hg => rfl); (case hr => first | (go_simp; done) | (go_simp; rfl)); intro gb113 hg w25 hbox hb; have n0_ := Aside0.mk (below_step (by repeat (first | (with_reducible first | exact HB.out | apply below_alloc | apply pw_below_drewN | apply below_drew1) | exact HB.out)) hb); have n1_ := Aside0.mk (hbox); have n2_ := Aside0.mk ((by rw [hg]; exact (below_size (by repeat (first | (with_reducible first | exact HB.out | apply below_alloc | apply pw_below_drewN | apply below_drew1) | exact HB.out))) : w.heap.size ≤ gb113)); have n3_ := Aside0.mk ((by rw [hg]; exact (below_size (by repeat (first | (with_reducible first | exact HB.out | apply below_alloc | apply pw_below_drewN | apply below_drew1) | exact HB.out))) : w.heap.size ≤ gb113)); clear HB; have HB := n0_; have BK113 := n1_; have GW113 := n2_; have GE113 := n3_; clear n0_ n1_ n2_ n3_; clear hb hbox hg; have hcz26_0 : w25.cell? ⟨gb113, 0, none⟩ = some (.int .i64 a0_0) := (blk_cell BK113.out 0).trans rfl; have hcz26_1 : w25.cell? ⟨gb113, 1, none⟩ = some (.int .i64 a0_1) := (blk_cell BK113.out 1).trans rfl; have hcz26_2 : w25.cell? ⟨gb113, 2, none⟩ = some (.string a0_2) := (blk_cell BK113.out 2).trans rfl; have hcz26_3 : w25.cell? ⟨gb113, 3, none⟩ = some (.string a0_3) := (blk_cell BK113.out 3).trans rfl; have hcz26_4 : w25.cell? ⟨gb113, 4, none⟩ = some (.string a0_4) := (blk_cell BK113.out 4).trans rfl; have hfz26_0 := blk_frozen BK113.out 0; have hfz26_1 := blk_frozen BK113.out 1; have hfz26_2 := blk_frozen BK113.out 2; have hfz26_3 := blk_frozen BK113.out 3; have hfz26_4 := blk_frozen BK113.out 4))
        go_ret
        exact ⟨by first | rfl | (simp [errW_none, errW_some] <;> rfl) | (simp [*, errW_none, errW_some] <;> rfl), by repeat (first | (with_reducible first | exact HB.out | apply below_alloc | apply pw_below_drewN | apply below_drew1 | refine below_set ?_ GE113.out) | exact HB.out)⟩
    · rw [if_neg c3] at H
      have c3b0 : decide (a0_0 < 4) = false := decide_eq_false c3
      clear c3
      obtain rfl := Option.some.inj H
      go_enter Try.func14, Try.ntmps14
      go_wp2_with (first | ((with_reducible refine gate_dst (N := 1) rfl ?_); (try (refine gate_guard (by rfl) ?_; dsimp only)); refine box_event ?hg (N := 1) ?hd (cs := #[.int .i64 a0_0, .int .i64 a0_1, .string a0_2, .string a0_3, .string a0_4]) (t := 24) ?hr ?_; (case hd => rfl); (case hg => rfl); (case hr => first | (go_simp; done) | (go_simp; rfl)); intro gb113 hg w27 hbox hb; have n0_ := Aside0.mk (below_step (by repeat (first | (with_reducible first | exact HB.out | apply below_alloc | apply pw_below_drewN | apply below_drew1) | exact HB.out)) hb); have n1_ := Aside0.mk (hbox); have n2_ := Aside0.mk ((by rw [hg]; exact (below_size (by repeat (first | (with_reducible first | exact HB.out | apply below_alloc | apply pw_below_drewN | apply below_drew1) | exact HB.out))) : w.heap.size ≤ gb113)); have n3_ := Aside0.mk ((by rw [hg]; exact (below_size (by repeat (first | (with_reducible first | exact HB.out | apply below_alloc | apply pw_below_drewN | apply below_drew1) | exact HB.out))) : w.heap.size ≤ gb113)); clear HB; have HB := n0_; have BK113 := n1_; have GW113 := n2_; have GE113 := n3_; clear n0_ n1_ n2_ n3_; clear hb hbox hg; have hcz28_0 : w27.cell? ⟨gb113, 0, none⟩ = some (.int .i64 a0_0) := (blk_cell BK113.out 0).trans rfl; have hcz28_1 : w27.cell? ⟨gb113, 1, none⟩ = some (.int .i64 a0_1) := (blk_cell BK113.out 1).trans rfl; have hcz28_2 : w27.cell? ⟨gb113, 2, none⟩ = some (.string a0_2) := (blk_cell BK113.out 2).trans rfl; have hcz28_3 : w27.cell? ⟨gb113, 3, none⟩ = some (.string a0_3) := (blk_cell BK113.out 3).trans rfl; have hcz28_4 : w27.cell? ⟨gb113, 4, none⟩ = some (.string a0_4) := (blk_cell BK113.out 4).trans rfl; have hfz28_0 := blk_frozen BK113.out 0; have hfz28_1 := blk_frozen BK113.out 1; have hfz28_2 := blk_frozen BK113.out 2; have hfz28_3 := blk_frozen BK113.out 3; have hfz28_4 := blk_frozen BK113.out 4))
      go_ret
      exact ⟨by first | rfl | (simp [errW_none, errW_some] <;> rfl) | (simp [*, errW_none, errW_some] <;> rfl), by repeat (first | (with_reducible first | exact HB.out | apply below_alloc | apply pw_below_drewN | apply below_drew1 | refine below_set ?_ GE113.out) | exact HB.out)⟩
  · rw [if_neg c2] at H
    have c2b0 : decide (0 ≤ a0_0) = false := decide_eq_false c2
    clear c2
    obtain rfl := Option.some.inj H
    go_enter Try.func14, Try.ntmps14
    go_wp2_with (first | ((with_reducible refine gate_dst (N := 1) rfl ?_); (try (refine gate_guard (by rfl) ?_; dsimp only)); refine box_event ?hg (N := 1) ?hd (cs := #[.int .i64 a0_0, .int .i64 a0_1, .string a0_2, .string a0_3, .string a0_4]) (t := 24) ?hr ?_; (case hd => rfl); (case hg => rfl); (case hr => first | (go_simp; done) | (go_simp; rfl)); intro gb113 hg w29 hbox hb; have n0_ := Aside0.mk (below_step (by repeat (first | (with_reducible first | exact HB.out | apply below_alloc | apply pw_below_drewN | apply below_drew1) | exact HB.out)) hb); have n1_ := Aside0.mk (hbox); have n2_ := Aside0.mk ((by rw [hg]; exact (below_size (by repeat (first | (with_reducible first | exact HB.out | apply below_alloc | apply pw_below_drewN | apply below_drew1) | exact HB.out))) : w.heap.size ≤ gb113)); have n3_ := Aside0.mk ((by rw [hg]; exact (below_size (by repeat (first | (with_reducible first | exact HB.out | apply below_alloc | apply pw_below_drewN | apply below_drew1) | exact HB.out))) : w.heap.size ≤ gb113)); clear HB; have HB := n0_; have BK113 := n1_; have GW113 := n2_; have GE113 := n3_; clear n0_ n1_ n2_ n3_; clear hb hbox hg; have hcz30_0 : w29.cell? ⟨gb113, 0, none⟩ = some (.int .i64 a0_0) := (blk_cell BK113.out 0).trans rfl; have hcz30_1 : w29.cell? ⟨gb113, 1, none⟩ = some (.int .i64 a0_1) := (blk_cell BK113.out 1).trans rfl; have hcz30_2 : w29.cell? ⟨gb113, 2, none⟩ = some (.string a0_2) := (blk_cell BK113.out 2).trans rfl; have hcz30_3 : w29.cell? ⟨gb113, 3, none⟩ = some (.string a0_3) := (blk_cell BK113.out 3).trans rfl; have hcz30_4 : w29.cell? ⟨gb113, 4, none⟩ = some (.string a0_4) := (blk_cell BK113.out 4).trans rfl; have hfz30_0 := blk_frozen BK113.out 0; have hfz30_1 := blk_frozen BK113.out 1; have hfz30_2 := blk_frozen BK113.out 2; have hfz30_3 := blk_frozen BK113.out 3; have hfz30_4 := blk_frozen BK113.out 4))
    go_ret
    exact ⟨by first | rfl | (simp [errW_none, errW_some] <;> rfl) | (simp [*, errW_none, errW_some] <;> rfl), by repeat (first | (with_reducible first | exact HB.out | apply below_alloc | apply pw_below_drewN | apply below_drew1 | refine below_set ?_ GE113.out) | exact HB.out)⟩

end Go.Proofs.Ythedebalecnldaa.PReplicaArgs
namespace Go.Proofs.Ythedebalecnldaa.PReplicaArgs
open Go.RowKit Go.Proofs.YthedebalecnldaaW.PrintWords Go.Proofs.YthedebalecnldaaW.PrintLast Go.Proofs.YthedebalecnldaaW.PrintMore
attribute [local go_sem] max2_int min2_int max_two min_two max_three min_three max_four min_four   -- for this text's walks alone
set_option linter.unusedVariables false
set_option linter.unusedSimpArgs false

/-! ### wire_Text: function 25 -/
def wire_Text.f (a0 : ByteArray) : Option (ByteArray) := (wire_Number.f (a0.size : Int)).bind fun t114 => (if t114.size + a0.size ≤ 9223372036854775807 then (some (t114 ++ a0)) else (none))
set_option maxHeartbeats 8000000 in
set_option maxRecDepth 100000 in
theorem wire_Text.calls (a0 : ByteArray) (r : ByteArray) (w : World) (h : wire_Text.f a0 = some r) :
    Calls Try.prog 25 #[.string a0] w fun e w' => e = .returned (.string r) ∧ Below w.heap.size w w' := by
  have HB := Aside0.mk (Below.refl w.heap.size w)
  have H : ((wire_Number.f (a0.size : Int)).bind fun t114 => (if t114.size + a0.size ≤ 9223372036854775807 then (some (t114 ++ a0)) else (none))) = some r := h
  clear h
  replace H := Option.bind_eq_some_iff.mp H
  obtain ⟨t114, A20, H⟩ := H
  replace H : (if t114.size + a0.size ≤ 9223372036854775807 then (some (t114 ++ a0)) else (none)) = some r := H
  have A2 := Aside0.mk A20
  clear A20
  by_cases c3 : t114.size + a0.size ≤ 9223372036854775807
  · rw [if_pos c3] at H
    have c3b0 := eq_true c3
    have c3b1 : decide (t114.size + a0.size ≤ 9223372036854775807) = true := decide_eq_true c3
    try have c3b2 : (9223372036854775807 < t114.size + a0.size) = False := eq_false (Nat.not_lt.2 c3)
    obtain rfl := Option.some.inj H
    go_enter Try.func25, Try.ntmps25
    go_wp2_with (first | ((with_reducible refine gate_callee (f := 17) rfl ?_); refine goesL_ (some 5) rfl rfl Try.func17 (by kernel_rfl) rfl #[.int .i64 (a0.size : Int)] rfl (by (try simp only [List.map_toArray, List.map_cons, List.map_nil]); first | done | rfl | (simp only [List.length_drop, List.length_take]; rfl)) ?_; (with_reducible refine (wire_Number.calls (a0.size : Int) t114 _ A2.out).mono ?_); rintro e w4 ⟨rfl, hb⟩; refine ⟨_, rfl, ?_⟩; have n0_ := Aside0.mk (below_step (by repeat (first | (with_reducible first | exact HB.out | apply below_alloc | apply pw_below_drewN | apply below_drew1) | exact HB.out)) hb); clear HB; have HB := n0_; clear n0_; (try clear hb); (try clear hb2); (try clear hk); (try clear hi)))
    go_ret
    exact ⟨by first | rfl | (simp [errW_none, errW_some] <;> rfl) | (simp [*, errW_none, errW_some] <;> rfl), by repeat (first | (with_reducible first | exact HB.out | apply below_alloc | apply pw_below_drewN | apply below_drew1) | exact HB.out)⟩
  · rw [if_neg c3] at H
    exact absurd H (by simp)

end Go.Proofs.Ythedebalecnldaa.PReplicaArgs
namespace Go.Proofs.Ythedebalecnldaa.PReplicaArgs
open Go.RowKit Go.Proofs.YthedebalecnldaaW.PrintWords Go.Proofs.YthedebalecnldaaW.PrintLast Go.Proofs.YthedebalecnldaaW.PrintMore
attribute [local go_sem] max2_int min2_int max_two min_two max_three min_three max_four min_four   -- for this text's walks alone
set_option linter.unusedVariables false
set_option linter.unusedSimpArgs false

/-! ### wire_Request: function 16 -/
def wire_Request.f (a0_0 : Int) (a0_1 : Int) (a0_2 : ByteArray) (a0_3 : ByteArray) (a0_4 : ByteArray) : Option (ByteArray) := (wire_Number.f a0_0).bind fun t116 => (if 1 + t116.size ≤ 9223372036854775807 then ((wire_Number.f a0_1).bind fun t117 => (if ((⟨#[82]⟩ : ByteArray) ++ t116).size + t117.size ≤ 9223372036854775807 then ((wire_Text.f a0_2).bind fun t118 => (if (((⟨#[82]⟩ : ByteArray) ++ t116) ++ t117).size + t118.size ≤ 9223372036854775807 then ((wire_Text.f a0_3).bind fun t119 => (if ((((⟨#[82]⟩ : ByteArray) ++ t116) ++ t117) ++ t118).size + t119.size ≤ 9223372036854775807 then ((wire_Text.f a0_4).bind fun t120 => (if (((((⟨#[82]⟩ : ByteArray) ++ t116) ++ t117) ++ t118) ++ t119).size + t120.size ≤ 9223372036854775807 then (some ((((((⟨#[82]⟩ : ByteArray) ++ t116) ++ t117) ++ t118) ++ t119) ++ t120)) else (none))) else (none))) else (none))) else (none))) else (none))
def wire_Request.T1 : Bool × List (List Nat × List Nat) := (true, [([], []), ([0], [0]), ([1], [1]), ([2], [2]), ([], []), ([4], [4]), ([5, 2], [5]), ([3, 6], [3, 6]), ([], []), ([8], [8]), ([9, 6], [9]), ([7, 10], [7, 10]), ([], []), ([12], [12]), ([13, 10], [13]), ([11, 14], [11, 14]), ([], []), ([16], [16]), ([17, 14], [17]), ([15, 18], [15, 18]), ([19, 18, 0, 1, 2, 3, 4, 5, 6, 7, 8, 9, 10, 11, 12, 13, 14, 15, 16, 17, 18, 19], [19])])
def wire_Request.B1 : List Nat := [0, 1, 3, 7, 0, 16, 55, 127, 0, 256, 887, 2047, 0, 4096, 14199, 32767, 0, 65536, 227191, 524287, 1048575]
theorem wire_Request.tab1 : rtab .any (opsOf Try.f16 1) = wire_Request.T1 := by kernel_rfl
theorem wire_Request.bits1 : waitsOk wire_Request.T1.2 wire_Request.B1 = true := by kernel_rfl
set_option maxHeartbeats 8000000 in
set_option maxRecDepth 100000 in
theorem wire_Request.calls (a0_0 : Int) (a0_1 : Int) (a0_2 : ByteArray) (a0_3 : ByteArray) (a0_4 : ByteArray) (r : ByteArray) (w : World) (h : wire_Request.f a0_0 a0_1 a0_2 a0_3 a0_4 = some r) :
    Calls Try.prog 16 #[.agg #[.int .i64 a0_0, .int .i64 a0_1, .string a0_2, .string a0_3, .string a0_4]] w fun e w' => e = .returned (.string r) ∧ Below w.heap.size w w' := by
  have hu24 := Try.underlying24
  have HB := Aside0.mk (Below.refl w.heap.size w)
  have H : ((wire_Number.f a0_0).bind fun t116 => (if 1 + t116.size ≤ 9223372036854775807 then ((wire_Number.f a0_1).bind fun t117 => (if ((⟨#[82]⟩ : ByteArray) ++ t116).size + t117.size ≤ 9223372036854775807 then ((wire_Text.f a0_2).bind fun t118 => (if (((⟨#[82]⟩ : ByteArray) ++ t116) ++ t117).size + t118.size ≤ 9223372036854775807 then ((wire_Text.f a0_3).bind fun t119 => (if ((((⟨#[82]⟩ : ByteArray) ++ t116) ++ t117) ++ t118).size + t119.size ≤ 9223372036854775807 then ((wire_Text.f a0_4).bind fun t120 => (if (((((⟨#[82]⟩ : ByteArray) ++ t116) ++ t117) ++ t118) ++ t119).size + t120.size ≤ 9223372036854775807 then (some ((((((⟨#[82]⟩ : ByteArray) ++ t116) ++ t117) ++ t118) ++ t119) ++ t120)) else (none))) else (none))) else (none))) else (none))) else (none))) = some r := h
  clear h
  replace H := Option.bind_eq_some_iff.mp H
  obtain ⟨t116, A20, H⟩ := H
  replace H : (if 1 + t116.size ≤ 9223372036854775807 then ((wire_Number.f a0_1).bind fun t117 => (if ((⟨#[82]⟩ : ByteArray) ++ t116).size + t117.size ≤ 9223372036854775807 then ((wire_Text.f a0_2).bind fun t118 => (if (((⟨#[82]⟩ : ByteArray) ++ t116) ++ t117).size + t118.size ≤ 9223372036854775807 then ((wire_Text.f a0_3).bind fun t119 => (if ((((⟨#[82]⟩ : ByteArray) ++ t116) ++ t117) ++ t118).size + t119.size ≤ 9223372036854775807 then ((wire_Text.f a0_4).bind fun t120 => (if (((((⟨#[82]⟩ : ByteArray) ++ t116) ++ t117) ++ t118) ++ t119).size + t120.size ≤ 9223372036854775807 then (some ((((((⟨#[82]⟩ : ByteArray) ++ t116) ++ t117) ++ t118) ++ t119) ++ t120)) else (none))) else (none))) else (none))) else (none))) else (none)) = some r := H
  have A2 := Aside0.mk A20
  clear A20
  by_cases c3 : 1 + t116.size ≤ 9223372036854775807
  · rw [if_pos c3] at H
    have c3b0 := eq_true c3
    have c3b1 : decide (1 + t116.size ≤ 9223372036854775807) = true := decide_eq_true c3
    try have c3b2 : (9223372036854775807 < 1 + t116.size) = False := eq_false (Nat.not_lt.2 c3)
    replace H := Option.bind_eq_some_iff.mp H
    obtain ⟨t117, A40, H⟩ := H
    replace H : (if ((⟨#[82]⟩ : ByteArray) ++ t116).size + t117.size ≤ 9223372036854775807 then ((wire_Text.f a0_2).bind fun t118 => (if (((⟨#[82]⟩ : ByteArray) ++ t116) ++ t117).size + t118.size ≤ 9223372036854775807 then ((wire_Text.f a0_3).bind fun t119 => (if ((((⟨#[82]⟩ : ByteArray) ++ t116) ++ t117) ++ t118).size + t119.size ≤ 9223372036854775807 then ((wire_Text.f a0_4).bind fun t120 => (if (((((⟨#[82]⟩ : ByteArray) ++ t116) ++ t117) ++ t118) ++ t119).size + t120.size ≤ 9223372036854775807 then (some ((((((⟨#[82]⟩ : ByteArray) ++ t116) ++ t117) ++ t118) ++ t119) ++ t120)) else (none))) else (none))) else (none))) else (none)) = some r := H
    have A4 := Aside0.mk A40
    clear A40
    by_cases c5 : ((⟨#[82]⟩ : ByteArray) ++ t116).size + t117.size ≤ 9223372036854775807
    · rw [if_pos c5] at H
      have c5b0 := eq_true c5
      have c5b1 : decide (((⟨#[82]⟩ : ByteArray) ++ t116).size + t117.size ≤ 9223372036854775807) = true := decide_eq_true c5
      have c5s := c5
      simp only [ByteArray.size_append, show (⟨#[82]⟩ : ByteArray).size = 1 from rfl] at c5s
      have c5t := eq_false (Nat.not_lt.2 c5s)
      try have c5b2 : (9223372036854775807 < ((⟨#[82]⟩ : ByteArray) ++ t116).size + t117.size) = False := eq_false (Nat.not_lt.2 c5)
      try have c5b3 : (9223372036854775807 < 1 + t116.size + t117.size) = False := eq_false (Nat.not_lt.2 (by have h_ := c5; rw [ByteArray.size_append] at h_; exact h_))
      replace H := Option.bind_eq_some_iff.mp H
      obtain ⟨t118, A60, H⟩ := H
      replace H : (if (((⟨#[82]⟩ : ByteArray) ++ t116) ++ t117).size + t118.size ≤ 9223372036854775807 then ((wire_Text.f a0_3).bind fun t119 => (if ((((⟨#[82]⟩ : ByteArray) ++ t116) ++ t117) ++ t118).size + t119.size ≤ 9223372036854775807 then ((wire_Text.f a0_4).bind fun t120 => (if (((((⟨#[82]⟩ : ByteArray) ++ t116) ++ t117) ++ t118) ++ t119).size + t120.size ≤ 9223372036854775807 then (some ((((((⟨#[82]⟩ : ByteArray) ++ t116) ++ t117) ++ t118) ++ t119) ++ t120)) else (none))) else (none))) else (none)) = some r := H
      have A6 := Aside0.mk A60
      clear A60
      by_cases c7 : (((⟨#[82]⟩ : ByteArray) ++ t116) ++ t117).size + t118.size ≤ 9223372036854775807
      · rw [if_pos c7] at H
        have c7b0 := eq_true c7
        have c7b1 : decide ((((⟨#[82]⟩ : ByteArray) ++ t116) ++ t117).size + t118.size ≤ 9223372036854775807) = true := decide_eq_true c7
        have c7s := c7
        simp only [ByteArray.size_append, show (⟨#[82]⟩ : ByteArray).size = 1 from rfl] at c7s
        have c7t := eq_false (Nat.not_lt.2 c7s)
        try have c7b2 : (9223372036854775807 < (((⟨#[82]⟩ : ByteArray) ++ t116) ++ t117).size + t118.size) = False := eq_false (Nat.not_lt.2 c7)
        replace H := Option.bind_eq_some_iff.mp H
        obtain ⟨t119, A80, H⟩ := H
        replace H : (if ((((⟨#[82]⟩ : ByteArray) ++ t116) ++ t117) ++ t118).size + t119.size ≤ 9223372036854775807 then ((wire_Text.f a0_4).bind fun t120 => (if (((((⟨#[82]⟩ : ByteArray) ++ t116) ++ t117) ++ t118) ++ t119).size + t120.size ≤ 9223372036854775807 then (some ((((((⟨#[82]⟩ : ByteArray) ++ t116) ++ t117) ++ t118) ++ t119) ++ t120)) else (none))) else (none)) = some r := H
        have A8 := Aside0.mk A80
        clear A80
        by_cases c9 : ((((⟨#[82]⟩ : ByteArray) ++ t116) ++ t117) ++ t118).size + t119.size ≤ 9223372036854775807
        · rw [if_pos c9] at H
          have c9b0 := eq_true c9
          have c9b1 : decide (((((⟨#[82]⟩ : ByteArray) ++ t116) ++ t117) ++ t118).size + t119.size ≤ 9223372036854775807) = true := decide_eq_true c9
          have c9s := c9
          simp only [ByteArray.size_append, show (⟨#[82]⟩ : ByteArray).size = 1 from rfl] at c9s
          have c9t := eq_false (Nat.not_lt.2 c9s)
          try have c9b2 : (9223372036854775807 < ((((⟨#[82]⟩ : ByteArray) ++ t116) ++ t117) ++ t118).size + t119.size) = False := eq_false (Nat.not_lt.2 c9)
          replace H := Option.bind_eq_some_iff.mp H
          obtain ⟨t120, A100, H⟩ := H
          replace H : (if (((((⟨#[82]⟩ : ByteArray) ++ t116) ++ t117) ++ t118) ++ t119).size + t120.size ≤ 9223372036854775807 then (some ((((((⟨#[82]⟩ : ByteArray) ++ t116) ++ t117) ++ t118) ++ t119) ++ t120)) else (none)) = some r := H
          have A10 := Aside0.mk A100
          clear A100
          by_cases c11 : (((((⟨#[82]⟩ : ByteArray) ++ t116) ++ t117) ++ t118) ++ t119).size + t120.size ≤ 9223372036854775807
          · rw [if_pos c11] at H
            have c11b0 := eq_true c11
            have c11b1 : decide ((((((⟨#[82]⟩ : ByteArray) ++ t116) ++ t117) ++ t118) ++ t119).size + t120.size ≤ 9223372036854775807) = true := decide_eq_true c11
            have c11s := c11
            simp only [ByteArray.size_append, show (⟨#[82]⟩ : ByteArray).size = 1 from rfl] at c11s
            have c11t := eq_false (Nat.not_lt.2 c11s)
            try have c11b2 : (9223372036854775807 < (((((⟨#[82]⟩ : ByteArray) ++ t116) ++ t117) ++ t118) ++ t119).size + t120.size) = False := eq_false (Nat.not_lt.2 c11)
            obtain rfl := Option.some.inj H
            go_enter Try.func16, Try.ntmps16
            try go_wp2_with (first | ((with_reducible refine gate_dst (N := 1) rfl ?_); refine box_event ?hg (N := 1) ?hd (cs := #[.int .i64 a0_0, .int .i64 a0_1, .string a0_2, .string a0_3, .string a0_4]) (t := 24) ?hr ?_; (case hd => rfl); (case hg => rfl); (case hr => first | (go_simp; done) | (go_simp; rfl)); intro gb115 hg w12 hbox hb; have n0_ := Aside0.mk (below_step (by repeat (first | (with_reducible first | exact HB.out | apply below_alloc | apply pw_below_drewN | apply below_drew1) | exact HB.out)) hb); have n1_ := Aside0.mk (hbox); have n2_ := Aside0.mk ((by rw [hg]; exact (below_size (by repeat (first | (with_reducible first | exact HB.out | apply below_alloc | apply pw_below_drewN | apply below_drew1) | exact HB.out))) : w.heap.size ≤ gb115)); have n3_ := Aside0.mk ((by rw [hg]; exact (below_size (by repeat (first | (with_reducible first | exact HB.out | apply below_alloc | apply pw_below_drewN | apply below_drew1) | exact HB.out))) : w.heap.size ≤ gb115)); clear HB; have HB := n0_; have BK115 := n1_; have GW115 := n2_; have GE115 := n3_; clear n0_ n1_ n2_ n3_; clear hb hbox hg))
            have n0_ := Aside0.mk (blk_drew BK115.out)
            have n1_ := Aside0.mk (below_drew1 HB.out)
            clear BK115
            clear HB
            have BK115 := n0_
            have HB := n1_
            clear n0_ n1_
            refine start_ (n := 21) (S := fun w' => w'.cell? ⟨gb115, 0, none⟩ = some (.int .i64 a0_0) ∧ w'.cell? ⟨gb115, 1, none⟩ = some (.int .i64 a0_1) ∧ w'.cell? ⟨gb115, 2, none⟩ = some (.string a0_2) ∧ w'.cell? ⟨gb115, 3, none⟩ = some (.string a0_3) ∧ w'.cell? ⟨gb115, 4, none⟩ = some (.string a0_4)) (ds := []) #[false, false, false, false, false, false, false, false, false, false, false, false, false, false, false, false, false, false, false, false, false] (by kernel_rfl) rfl rfl ⟨(blk_cell BK115.out 0).trans rfl, (blk_cell BK115.out 1).trans rfl, (blk_cell BK115.out 2).trans rfl, (blk_cell BK115.out 3).trans rfl, (blk_cell BK115.out 4).trans rfl⟩ (fun hHeld => ?_); refine with_tabW wire_Request.tab1 wire_Request.bits1 (fun HT_ HW_ => ?_)
            generalize w12.drew = w13 at BK115 HB hHeld ⊢
            refine pure_ (i := 0) (N := some 3) (v := ?_) (a' := ?_) #[true, false, false, false, false, false, false, false, false, false, false, false, false, false, false, false, false, false, false, false, false] rfl rfl (any_of HT_.out (by kernel_rfl)) (fun _ _ _ h => h) (Or.inl ⟨by rfl, ?_⟩) ?_ ?_
            rotate_left
            · intro w'
              go_simp
              with_reducible rfl
            rotate_left
            · simp only [Act.put, List.setIfInBounds_toArray, List.set_cons_zero, List.set_cons_succ, i64_w, i32_w]
              rfl
            refine pure_ (i := 4) (N := some 7) (v := ?_) (a' := ?_) #[true, false, false, false, true, false, false, false, false, false, false, false, false, false, false, false, false, false, false, false, false] rfl rfl (any_of HT_.out (by kernel_rfl)) (fun _ _ _ h => h) (Or.inl ⟨by rfl, ?_⟩) ?_ ?_
            rotate_left
            · intro w'
              go_simp
              with_reducible rfl
            rotate_left
            · simp only [Act.put, List.setIfInBounds_toArray, List.set_cons_zero, List.set_cons_succ, i64_w, i32_w]
              rfl
            refine pure_ (i := 8) (N := some 11) (v := ?_) (a' := ?_) #[true, false, false, false, true, false, false, false, true, false, false, false, false, false, false, false, false, false, false, false, false] rfl rfl (any_of HT_.out (by kernel_rfl)) (fun _ _ _ h => h) (Or.inl ⟨by rfl, ?_⟩) ?_ ?_
            rotate_left
            · intro w'
              go_simp
              with_reducible rfl
            rotate_left
            · simp only [Act.put, List.setIfInBounds_toArray, List.set_cons_zero, List.set_cons_succ, i64_w, i32_w]
              rfl
            refine pure_ (i := 12) (N := some 15) (v := ?_) (a' := ?_) #[true, false, false, false, true, false, false, false, true, false, false, false, true, false, false, false, false, false, false, false, false] rfl rfl (any_of HT_.out (by kernel_rfl)) (fun _ _ _ h => h) (Or.inl ⟨by rfl, ?_⟩) ?_ ?_
            rotate_left
            · intro w'
              go_simp
              with_reducible rfl
            rotate_left
            · simp only [Act.put, List.setIfInBounds_toArray, List.set_cons_zero, List.set_cons_succ, i64_w, i32_w]
              rfl
            refine pure_ (i := 16) (N := some 19) (v := ?_) (a' := ?_) #[true, false, false, false, true, false, false, false, true, false, false, false, true, false, false, false, true, false, false, false, false] rfl rfl (any_of HT_.out (by kernel_rfl)) (fun _ _ _ h => h) (Or.inl ⟨by rfl, ?_⟩) ?_ ?_
            rotate_left
            · intro w'
              go_simp
              with_reducible rfl
            rotate_left
            · simp only [Act.put, List.setIfInBounds_toArray, List.set_cons_zero, List.set_cons_succ, i64_w, i32_w]
              rfl
            refine take_ (i := 1) (N := some 4) (v := ?_) (a' := ?_) #[true, true, false, false, true, false, false, false, true, false, false, false, true, false, false, false, true, false, false, false, false] rfl rfl (take_ofW HT_.out HW_.out (by kernel_rfl)) (fun _ _ _ h => h) (Or.inl ⟨by rfl, ?_⟩) hHeld ?_ ?_
            rotate_left
            · rintro w' ⟨s0, s1, s2, s3, s4⟩
              go_simp
              with_reducible rfl
            rotate_left
            · simp only [Act.put, List.setIfInBounds_toArray, List.set_cons_zero, List.set_cons_succ, i64_w, i32_w]
              rfl
            refine take_ (i := 5) (N := some 8) (v := ?_) (a' := ?_) #[true, true, false, false, true, true, false, false, true, false, false, false, true, false, false, false, true, false, false, false, false] rfl rfl (take_ofW HT_.out HW_.out (by kernel_rfl)) (fun _ _ _ h => h) (Or.inl ⟨by rfl, ?_⟩) hHeld ?_ ?_
            rotate_left
            · rintro w' ⟨s0, s1, s2, s3, s4⟩
              go_simp
              with_reducible rfl
            rotate_left
            · simp only [Act.put, List.setIfInBounds_toArray, List.set_cons_zero, List.set_cons_succ, i64_w, i32_w]
              rfl
            refine take_ (i := 9) (N := some 12) (v := ?_) (a' := ?_) #[true, true, false, false, true, true, false, false, true, true, false, false, true, false, false, false, true, false, false, false, false] rfl rfl (take_ofW HT_.out HW_.out (by kernel_rfl)) (fun _ _ _ h => h) (Or.inl ⟨by rfl, ?_⟩) hHeld ?_ ?_
            rotate_left
            · rintro w' ⟨s0, s1, s2, s3, s4⟩
              go_simp
              with_reducible rfl
            rotate_left
            · simp only [Act.put, List.setIfInBounds_toArray, List.set_cons_zero, List.set_cons_succ, i64_w, i32_w]
              rfl
            refine take_ (i := 13) (N := some 16) (v := ?_) (a' := ?_) #[true, true, false, false, true, true, false, false, true, true, false, false, true, true, false, false, true, false, false, false, false] rfl rfl (take_ofW HT_.out HW_.out (by kernel_rfl)) (fun _ _ _ h => h) (Or.inl ⟨by rfl, ?_⟩) hHeld ?_ ?_
            rotate_left
            · rintro w' ⟨s0, s1, s2, s3, s4⟩
              go_simp
              with_reducible rfl
            rotate_left
            · simp only [Act.put, List.setIfInBounds_toArray, List.set_cons_zero, List.set_cons_succ, i64_w, i32_w]
              rfl
            refine take_ (i := 17) (N := some 20) (v := ?_) (a' := ?_) #[true, true, false, false, true, true, false, false, true, true, false, false, true, true, false, false, true, true, false, false, false] rfl rfl (take_ofW HT_.out HW_.out (by kernel_rfl)) (fun _ _ _ h => h) (Or.inl ⟨by rfl, ?_⟩) hHeld ?_ ?_
            rotate_left
            · rintro w' ⟨s0, s1, s2, s3, s4⟩
              go_simp
              with_reducible rfl
            rotate_left
            · simp only [Act.put, List.setIfInBounds_toArray, List.set_cons_zero, List.set_cons_succ, i64_w, i32_w]
              rfl
            refine one_ (i := 2) (N := some 5) #[true, true, true, false, true, true, false, false, true, true, false, false, true, true, false, false, true, true, false, false, false] rfl rfl (one_of HT_.out (by kernel_rfl)) (by decide) (fun K hK => ?_)
            refine goes_ Try.func17 (by kernel_rfl) rfl #[.int .i64 a0_0] (by rfl) rfl rfl (by (try simp only [List.map_toArray, List.map_cons, List.map_nil]); first | done | rfl | (simp only [List.length_drop, List.length_take]; rfl)) ?_
            with_reducible refine (wire_Number.calls a0_0 t116 _ A2.out).mono ?_
            rintro e w14 ⟨rfl, hb⟩
            refine ⟨_, rfl, ?_⟩
            have n0_ := Aside0.mk (blk_below (g := gb115) (o := .cells #[.int .i64 a0_0, .int .i64 a0_1, .string a0_2, .string a0_3, .string a0_4] 24 (0, 0)) (by (with_reducible repeat (first | refine blk_drewN ?_ _ | refine blk_drew ?_ | refine blk_alloc ?_ _)); exact BK115.out) hb)
            have n1_ := Aside0.mk (below_step (by repeat (first | (with_reducible first | exact HB.out | apply below_alloc | apply pw_below_drewN | apply below_drew1 | refine below_set ?_ GE115.out) | exact HB.out)) hb)
            clear BK115
            clear HB
            have BK115 := n0_
            have HB := n1_
            clear n0_ n1_
            (try clear hb)
            (try clear hb2)
            (try clear hk)
            (try clear hi)
            refine hK.out _ _ ⟨(blk_cell BK115.out 0).trans rfl, (blk_cell BK115.out 1).trans rfl, (blk_cell BK115.out 2).trans rfl, (blk_cell BK115.out 3).trans rfl, (blk_cell BK115.out 4).trans rfl⟩ (fun hHeld => ?_)
            clear hK K
            refine norm_ (a' := ?_) ?_ ?_
            rotate_left
            · show Act.put _ (some 5) _ = _
              simp only [Act.put, List.setIfInBounds_toArray, List.set_cons_zero, List.set_cons_succ, i64_w, i32_w]
              rfl
            refine pure_ (i := 3) (N := some 6) (v := ?_) (a' := ?_) #[true, true, true, true, true, true, false, false, true, true, false, false, true, true, false, false, true, true, false, false, false] rfl rfl (any_of HT_.out (by kernel_rfl)) (fun _ _ _ h => h) (Or.inl ⟨by rfl, ?_⟩) ?_ ?_
            rotate_left
            · intro w'
              go_simp
              with_reducible rfl
            rotate_left
            · simp only [Act.put, List.setIfInBounds_toArray, List.set_cons_zero, List.set_cons_succ, i64_w, i32_w]
              rfl
            refine one_ (i := 6) (N := some 9) #[true, true, true, true, true, true, true, false, true, true, false, false, true, true, false, false, true, true, false, false, false] rfl rfl (one_of HT_.out (by kernel_rfl)) (by decide) (fun K hK => ?_)
            refine goes_ Try.func17 (by kernel_rfl) rfl #[.int .i64 a0_1] (by rfl) rfl rfl (by (try simp only [List.map_toArray, List.map_cons, List.map_nil]); first | done | rfl | (simp only [List.length_drop, List.length_take]; rfl)) ?_
            with_reducible refine (wire_Number.calls a0_1 t117 _ A4.out).mono ?_
            rintro e w15 ⟨rfl, hb⟩
            refine ⟨_, rfl, ?_⟩
            have n0_ := Aside0.mk (blk_below (g := gb115) (o := .cells #[.int .i64 a0_0, .int .i64 a0_1, .string a0_2, .string a0_3, .string a0_4] 24 (0, 0)) (by (with_reducible repeat (first | refine blk_drewN ?_ _ | refine blk_drew ?_ | refine blk_alloc ?_ _)); exact BK115.out) hb)
            have n1_ := Aside0.mk (below_step (by repeat (first | (with_reducible first | exact HB.out | apply below_alloc | apply pw_below_drewN | apply below_drew1 | refine below_set ?_ GE115.out) | exact HB.out)) hb)
            clear BK115
            clear HB
            have BK115 := n0_
            have HB := n1_
            clear n0_ n1_
            (try clear hb)
            (try clear hb2)
            (try clear hk)
            (try clear hi)
            refine hK.out _ _ ⟨(blk_cell BK115.out 0).trans rfl, (blk_cell BK115.out 1).trans rfl, (blk_cell BK115.out 2).trans rfl, (blk_cell BK115.out 3).trans rfl, (blk_cell BK115.out 4).trans rfl⟩ (fun hHeld => ?_)
            clear hK K
            refine norm_ (a' := ?_) ?_ ?_
            rotate_left
            · show Act.put _ (some 9) _ = _
              simp only [Act.put, List.setIfInBounds_toArray, List.set_cons_zero, List.set_cons_succ, i64_w, i32_w]
              rfl
            refine pure_ (i := 7) (N := some 10) (v := ?_) (a' := ?_) #[true, true, true, true, true, true, true, true, true, true, false, false, true, true, false, false, true, true, false, false, false] rfl rfl (any_of HT_.out (by kernel_rfl)) (fun _ _ _ h => h) (Or.inl ⟨by rfl, ?_⟩) ?_ ?_
            rotate_left
            · intro w'
              go_simp
              with_reducible rfl
            rotate_left
            · simp only [Act.put, List.setIfInBounds_toArray, List.set_cons_zero, List.set_cons_succ, i64_w, i32_w]
              rfl
            refine one_ (i := 10) (N := some 13) #[true, true, true, true, true, true, true, true, true, true, true, false, true, true, false, false, true, true, false, false, false] rfl rfl (one_of HT_.out (by kernel_rfl)) (by decide) (fun K hK => ?_)
            refine goes_ Try.func25 (by kernel_rfl) rfl #[.string a0_2] (by rfl) rfl rfl (by (try simp only [List.map_toArray, List.map_cons, List.map_nil]); first | done | rfl | (simp only [List.length_drop, List.length_take]; rfl)) ?_
            with_reducible refine (wire_Text.calls a0_2 t118 _ A6.out).mono ?_
            rintro e w16 ⟨rfl, hb⟩
            refine ⟨_, rfl, ?_⟩
            have n0_ := Aside0.mk (blk_below (g := gb115) (o := .cells #[.int .i64 a0_0, .int .i64 a0_1, .string a0_2, .string a0_3, .string a0_4] 24 (0, 0)) (by (with_reducible repeat (first | refine blk_drewN ?_ _ | refine blk_drew ?_ | refine blk_alloc ?_ _)); exact BK115.out) hb)
            have n1_ := Aside0.mk (below_step (by repeat (first | (with_reducible first | exact HB.out | apply below_alloc | apply pw_below_drewN | apply below_drew1 | refine below_set ?_ GE115.out) | exact HB.out)) hb)
            clear BK115
            clear HB
            have BK115 := n0_
            have HB := n1_
            clear n0_ n1_
            (try clear hb)
            (try clear hb2)
            (try clear hk)
            (try clear hi)
            refine hK.out _ _ ⟨(blk_cell BK115.out 0).trans rfl, (blk_cell BK115.out 1).trans rfl, (blk_cell BK115.out 2).trans rfl, (blk_cell BK115.out 3).trans rfl, (blk_cell BK115.out 4).trans rfl⟩ (fun hHeld => ?_)
            clear hK K
            refine norm_ (a' := ?_) ?_ ?_
            rotate_left
            · show Act.put _ (some 13) _ = _
              simp only [Act.put, List.setIfInBounds_toArray, List.set_cons_zero, List.set_cons_succ, i64_w, i32_w]
              rfl
            refine pure_ (i := 11) (N := some 14) (v := ?_) (a' := ?_) #[true, true, true, true, true, true, true, true, true, true, true, true, true, true, false, false, true, true, false, false, false] rfl rfl (any_of HT_.out (by kernel_rfl)) (fun _ _ _ h => h) (Or.inl ⟨by rfl, ?_⟩) ?_ ?_
            rotate_left
            · intro w'
              go_simp
              with_reducible rfl
            rotate_left
            · simp only [Act.put, List.setIfInBounds_toArray, List.set_cons_zero, List.set_cons_succ, i64_w, i32_w]
              rfl
            refine one_ (i := 14) (N := some 17) #[true, true, true, true, true, true, true, true, true, true, true, true, true, true, true, false, true, true, false, false, false] rfl rfl (one_of HT_.out (by kernel_rfl)) (by decide) (fun K hK => ?_)
            refine goes_ Try.func25 (by kernel_rfl) rfl #[.string a0_3] (by rfl) rfl rfl (by (try simp only [List.map_toArray, List.map_cons, List.map_nil]); first | done | rfl | (simp only [List.length_drop, List.length_take]; rfl)) ?_
            with_reducible refine (wire_Text.calls a0_3 t119 _ A8.out).mono ?_
            rintro e w17 ⟨rfl, hb⟩
            refine ⟨_, rfl, ?_⟩
            have n0_ := Aside0.mk (blk_below (g := gb115) (o := .cells #[.int .i64 a0_0, .int .i64 a0_1, .string a0_2, .string a0_3, .string a0_4] 24 (0, 0)) (by (with_reducible repeat (first | refine blk_drewN ?_ _ | refine blk_drew ?_ | refine blk_alloc ?_ _)); exact BK115.out) hb)
            have n1_ := Aside0.mk (below_step (by repeat (first | (with_reducible first | exact HB.out | apply below_alloc | apply pw_below_drewN | apply below_drew1 | refine below_set ?_ GE115.out) | exact HB.out)) hb)
            clear BK115
            clear HB
            have BK115 := n0_
            have HB := n1_
            clear n0_ n1_
            (try clear hb)
            (try clear hb2)
            (try clear hk)
            (try clear hi)
            refine hK.out _ _ ⟨(blk_cell BK115.out 0).trans rfl, (blk_cell BK115.out 1).trans rfl, (blk_cell BK115.out 2).trans rfl, (blk_cell BK115.out 3).trans rfl, (blk_cell BK115.out 4).trans rfl⟩ (fun hHeld => ?_)
            clear hK K
            refine norm_ (a' := ?_) ?_ ?_
            rotate_left
            · show Act.put _ (some 17) _ = _
              simp only [Act.put, List.setIfInBounds_toArray, List.set_cons_zero, List.set_cons_succ, i64_w, i32_w]
              rfl
            refine pure_ (i := 15) (N := some 18) (v := ?_) (a' := ?_) #[true, true, true, true, true, true, true, true, true, true, true, true, true, true, true, true, true, true, false, false, false] rfl rfl (any_of HT_.out (by kernel_rfl)) (fun _ _ _ h => h) (Or.inl ⟨by rfl, ?_⟩) ?_ ?_
            rotate_left
            · intro w'
              go_simp
              with_reducible rfl
            rotate_left
            · simp only [Act.put, List.setIfInBounds_toArray, List.set_cons_zero, List.set_cons_succ, i64_w, i32_w]
              rfl
            refine one_ (i := 18) (N := some 21) #[true, true, true, true, true, true, true, true, true, true, true, true, true, true, true, true, true, true, true, false, false] rfl rfl (one_of HT_.out (by kernel_rfl)) (by decide) (fun K hK => ?_)
            refine goes_ Try.func25 (by kernel_rfl) rfl #[.string a0_4] (by rfl) rfl rfl (by (try simp only [List.map_toArray, List.map_cons, List.map_nil]); first | done | rfl | (simp only [List.length_drop, List.length_take]; rfl)) ?_
            with_reducible refine (wire_Text.calls a0_4 t120 _ A10.out).mono ?_
            rintro e w18 ⟨rfl, hb⟩
            refine ⟨_, rfl, ?_⟩
            have n0_ := Aside0.mk (blk_below (g := gb115) (o := .cells #[.int .i64 a0_0, .int .i64 a0_1, .string a0_2, .string a0_3, .string a0_4] 24 (0, 0)) (by (with_reducible repeat (first | refine blk_drewN ?_ _ | refine blk_drew ?_ | refine blk_alloc ?_ _)); exact BK115.out) hb)
            have n1_ := Aside0.mk (below_step (by repeat (first | (with_reducible first | exact HB.out | apply below_alloc | apply pw_below_drewN | apply below_drew1 | refine below_set ?_ GE115.out) | exact HB.out)) hb)
            clear BK115
            clear HB
            have BK115 := n0_
            have HB := n1_
            clear n0_ n1_
            (try clear hb)
            (try clear hb2)
            (try clear hk)
            (try clear hi)
            refine hK.out _ _ ⟨(blk_cell BK115.out 0).trans rfl, (blk_cell BK115.out 1).trans rfl, (blk_cell BK115.out 2).trans rfl, (blk_cell BK115.out 3).trans rfl, (blk_cell BK115.out 4).trans rfl⟩ (fun hHeld => ?_)
            clear hK K
            refine norm_ (a' := ?_) ?_ ?_
            rotate_left
            · show Act.put _ (some 21) _ = _
              simp only [Act.put, List.setIfInBounds_toArray, List.set_cons_zero, List.set_cons_succ, i64_w, i32_w]
              rfl
            refine pure_ (i := 19) (N := some 22) (v := ?_) (a' := ?_) #[true, true, true, true, true, true, true, true, true, true, true, true, true, true, true, true, true, true, true, true, false] rfl rfl (any_of HT_.out (by kernel_rfl)) (fun _ _ _ h => h) (Or.inl ⟨by rfl, ?_⟩) ?_ ?_
            rotate_left
            · intro w'
              go_simp
              with_reducible rfl
            rotate_left
            · simp only [Act.put, List.setIfInBounds_toArray, List.set_cons_zero, List.set_cons_succ, i64_w, i32_w]
              rfl
            refine pure_ (i := 20) (N := some 2) (v := ?_) (a' := ?_) #[true, true, true, true, true, true, true, true, true, true, true, true, true, true, true, true, true, true, true, true, true] rfl rfl (any_of HT_.out (by kernel_rfl)) (fun _ _ _ h => h) (Or.inl ⟨by rfl, ?_⟩) ?_ ?_
            rotate_left
            · intro w'
              go_simp
              with_reducible rfl
            rotate_left
            · simp only [Act.put, List.setIfInBounds_toArray, List.set_cons_zero, List.set_cons_succ, i64_w, i32_w]
              rfl
            refine done_ (done_of HT_.out (by kernel_rfl)) ?_
            try go_wp2
            go_ret
            exact ⟨by first | rfl | (simp [errW_none, errW_some] <;> rfl) | (simp [*, errW_none, errW_some] <;> rfl), by repeat (first | (with_reducible first | exact HB.out | apply below_alloc | apply pw_below_drewN | apply below_drew1 | refine below_set ?_ GE115.out) | exact HB.out)⟩
          · rw [if_neg c11] at H
            exact absurd H (by simp)
        · rw [if_neg c9] at H
          exact absurd H (by simp)
      · rw [if_neg c7] at H
        exact absurd H (by simp)
    · rw [if_neg c5] at H
      exact absurd H (by simp)
  · rw [if_neg c3] at H
    exact absurd H (by simp)

end Go.Proofs.Ythedebalecnldaa.PReplicaArgs
namespace Go.Proofs.Ythedebalecnldaa.Dec
set_option linter.unusedVariables false
/-- how many of the first n nodes are in a set -/
def cn (x : Nat) : Nat → Nat
  | 0 => 0
  | n + 1 => cn x n + (x.testBit n).toNat
/-- a majority of n nodes -/
def enb (x n : Nat) : Bool := decide (n / 2 + 1 ≤ cn x n)
def bput (s i : Nat) : Nat := s ||| 2 ^ i
theorem bput_bit (s i j : Nat) : (bput s i).testBit j = (s.testBit j || decide (i = j)) := by
  unfold bput; rw [Nat.testBit_or, Nat.testBit_two_pow]
theorem bput_self (s i : Nat) : (bput s i).testBit i = true := by rw [bput_bit]; simp
theorem bput_old {s i j : Nat} (h : s.testBit j = true) : (bput s i).testBit j = true := by rw [bput_bit, h]; rfl
theorem bput_cases {s i j : Nat} (h : (bput s i).testBit j = true) : s.testBit j = true ∨ i = j := by
  rw [bput_bit] at h
  cases hs : s.testBit j with
  | true => exact .inl rfl
  | false => rw [hs] at h; exact .inr (of_decide_eq_true (by simpa using h))
theorem cn_apart (a b : Nat) : ∀ n, (∀ i, i < n → ¬ (a.testBit i = true ∧ b.testBit i = true)) → cn a n + cn b n ≤ n
  | 0, _ => Nat.le_refl _
  | n + 1, h => by
    have h1 := cn_apart a b n (fun i hi => h i (by omega))
    have h2 := h n (by omega)
    unfold cn
    cases ha : a.testBit n <;> cases hb : b.testBit n <;> simp_all <;> omega
theorem enb_share {a b n : Nat} (ha : enb a n = true) (hb : enb b n = true) : ∃ i, i < n ∧ a.testBit i = true ∧ b.testBit i = true := by
  have h1 := of_decide_eq_true ha
  have h2 := of_decide_eq_true hb
  apply Classical.byContradiction
  intro h
  have h3 := cn_apart a b n (fun i hi hh => h ⟨i, hi, hh⟩)
  omega
theorem cn_le {a b : Nat} : ∀ n, (∀ i, i < n → a.testBit i = true → b.testBit i = true) → cn a n ≤ cn b n
  | 0, _ => Nat.le_refl _
  | n + 1, h => by
    have h1 := cn_le n (fun i hi => h i (by omega))
    have h2 := h n (by omega)
    unfold cn
    cases ha : a.testBit n with
    | false => simp; omega
    | true => rw [h2 ha]; simp; omega
theorem enb_le {a b n : Nat} (h : ∀ i, i < n → a.testBit i = true → b.testBit i = true) (ha : enb a n = true) : enb b n = true := by
  have h1 := of_decide_eq_true ha
  have h2 := cn_le n h
  exact decide_eq_true (by omega)

/-- a node's slot -/
structure Sl where
  pr : Int
  bal : Int
  val : ByteArray
/-- a letter -/
structure Lt where
  kd : Int
  fr : Int
  dst : Int
  bal : Int
  acc : Int
  val : ByteArray
/-- a proposal -/
structure Pp where
  b : Int
  ph : Int
  v : ByteArray
  best : Int
  fd : ByteArray
  pr : Nat
  tk : Nat
/-- the place -/
structure D where
  sl : List Sl
  pp : Int → Option Pp
  lt : List Lt
  bg : List ByteArray
  ch : List ByteArray
  tk : Int → Option (Nat × ByteArray)
def upd {α : Type} (f : Int → Option α) (k : Int) (v : Option α) : Int → Option α := fun x => if x = k then v else f x
theorem upd_self {α : Type} (f : Int → Option α) (k : Int) (v : Option α) : upd f k v k = v := if_pos rfl
theorem upd_ne {α : Type} (f : Int → Option α) {k x : Int} (v : Option α) (h : x ≠ k) : upd f k v x = f x := if_neg h
def e0 : ByteArray := ⟨#[]⟩
def fresh (b : Int) (v : ByteArray) : Pp := ⟨b, 1, v, 0, e0, 0, 0⟩
def allTo (n : Nat) (x : Lt) : List Lt := (List.range n).map fun (i : Nat) => { x with dst := (i : Int) }
def nextB (d : D) (who : Int) : Int := 8 * ((d.bg.length : Int) + 1) + who
def beginD (d : D) (who : Int) (v : ByteArray) : D :=
  if (d.bg.length : Int) ≥ 268435454 then d
  else { d with bg := d.bg ++ [v], pp := upd d.pp (nextB d who) (some (fresh (nextB d who) v)), lt := d.lt ++ allTo d.sl.length ⟨0, who, 0, nextB d who, 0, e0⟩ }
/-- a ballot that may be -/
def isB (b : Int) : Prop := 1 ≤ b ∧ b ≤ 2147483647
instance (b : Int) : Decidable (isB b) := inferInstanceAs (Decidable (_ ∧ _))
def sl0 : Sl := ⟨0, 0, e0⟩
def slot (d : D) (i : Int) : Sl := d.sl.getD i.toNat sl0
def promD (d : D) (x : Lt) : D :=
  if isB x.bal ∧ (slot d x.dst).pr < x.bal then { d with sl := d.sl.set x.dst.toNat { slot d x.dst with pr := x.bal }, lt := d.lt ++ [⟨1, x.dst, x.fr, x.bal, (slot d x.dst).bal, (slot d x.dst).val⟩] } else d
def whoOf (d : D) (b : Int) : Nat := match d.tk b with | some h => h.1 | none => 0
def accD (d : D) (x : Lt) : D :=
  if isB x.bal ∧ (slot d x.dst).pr ≤ x.bal then { d with sl := d.sl.set x.dst.toNat ⟨x.bal, x.bal, x.val⟩, tk := upd d.tk x.bal (some (bput (whoOf d x.bal) x.dst.toNat, x.val)), lt := d.lt ++ [⟨3, x.dst, x.fr, x.bal, 0, e0⟩] } else d
def cnts (n : Nat) (ph : Int) (p : Pp) (fr bal : Int) (had : Nat) : Prop := p.ph = ph ∧ bal = p.b ∧ 0 ≤ fr ∧ fr < n ∧ had.testBit fr.toNat = false
instance (n : Nat) (ph : Int) (p : Pp) (fr bal : Int) (had : Nat) : Decidable (cnts n ph p fr bal had) := inferInstanceAs (Decidable (_ ∧ _ ∧ _ ∧ _ ∧ _))
def best' (p : Pp) (acc : Int) : Int := if acc > p.best then acc else p.best
def fd' (p : Pp) (acc : Int) (val : ByteArray) : ByteArray := if acc > p.best then val else p.fd
def promP (n : Nat) (p : Pp) (fr bal acc : Int) (val : ByteArray) : Bool × Pp :=
  if cnts n 1 p fr bal p.pr then
    if enb (bput p.pr fr.toNat) n = true then (true, { p with ph := 2, v := if best' p acc > 0 then fd' p acc val else p.v, best := best' p acc, fd := fd' p acc val, pr := bput p.pr fr.toNat })
    else (false, { p with best := best' p acc, fd := fd' p acc val, pr := bput p.pr fr.toNat })
  else (false, p)
def accP (n : Nat) (p : Pp) (fr bal : Int) : Bool × Pp :=
  if cnts n 2 p fr bal p.tk then
    if enb (bput p.tk fr.toNat) n = true then (true, { p with ph := 3, tk := bput p.tk fr.toNat }) else (false, { p with tk := bput p.tk fr.toNat })
  else (false, p)
def tellD (d : D) (x : Lt) : D :=
  match d.pp x.bal with
  | none => d
  | some p =>
    if x.kd = 1 then
      { d with pp := upd d.pp x.bal (some (promP d.sl.length p x.fr x.bal x.acc x.val).2), lt := d.lt ++ (if (promP d.sl.length p x.fr x.bal x.acc x.val).1 = true then allTo d.sl.length ⟨2, x.dst, 0, x.bal, 0, (promP d.sl.length p x.fr x.bal x.acc x.val).2.v⟩ else []) }
    else
      { d with pp := upd d.pp x.bal (some (accP d.sl.length p x.fr x.bal).2), ch := d.ch ++ (if (accP d.sl.length p x.fr x.bal).1 = true then [(accP d.sl.length p x.fr x.bal).2.v] else []) }
def readD (d : D) (x : Lt) : D := if x.kd = 0 then promD d x else if x.kd = 2 then accD d x else tellD d x
def forgD (d : D) (who : Int) : D := { d with pp := fun b => match d.pp b with | none => none | some p => if Int.tmod b 8 = who ∧ p.ph ≠ 3 then none else some p }
/-- a step -/
structure St where
  kd : Int
  who : Int
  n : Int
  val : ByteArray
def md (n m : Int) : Int := Int.tmod (Int.tmod n m + m) m
def doD (d : D) (s : St) : D :=
  if s.kd = 0 then beginD d (md s.who d.sl.length) s.val
  else if s.kd = 4 then forgD d (md s.who d.sl.length)
  else if s.kd = 1 ∨ s.kd = 2 ∨ s.kd = 3 then
    match d.lt[(md s.n d.lt.length).toNat]? with
    | none => d
    | some x =>
      if s.kd = 3 then { d with lt := d.lt ++ [x] }
      else if s.kd = 1 then readD { d with lt := d.lt.eraseIdx (md s.n d.lt.length).toNat } x
      else { d with lt := d.lt.eraseIdx (md s.n d.lt.length).toNat }
  else d
def newD (n : Nat) : D := ⟨List.replicate n sl0, fun _ => none, [], [], [], fun _ => none⟩

-- what always holds
/-- node a has accepted ballot c -/
def A (d : D) (a : Nat) (c : Int) : Prop := ∃ h, d.tk c = some h ∧ h.1.testBit a = true
/-- node a has promised ballot b, or a higher one -/
def High (d : D) (a : Nat) (b : Int) : Prop := ∃ s, d.sl[a]? = some s ∧ b ≤ s.pr
abbrev Vs := Int → Option ByteArray
def Told (d : D) (V : Vs) (a : Nat) (b acc : Int) (val : ByteArray) : Prop :=
  High d a b ∧ 0 ≤ acc ∧ (acc = 0 ∨ (acc < b ∧ V acc = some val)) ∧ ∀ c, acc < c → c < b → ¬ A d a c
def LtOK (n : Nat) (d : D) (V : Vs) (x : Lt) : Prop :=
  0 ≤ x.fr ∧ x.fr < n ∧ 0 ≤ x.dst ∧ x.dst < n ∧ (x.kd = 0 ∨ (x.kd = 1 ∧ Told d V x.fr.toNat x.bal x.acc x.val) ∨ (x.kd = 2 ∧ V x.bal = some x.val) ∨ (x.kd = 3 ∧ A d x.fr.toNat x.bal))
def PpOK (n : Nat) (d : D) (V : Vs) (b : Int) (p : Pp) : Prop :=
  p.b = b ∧ p.v ∈ d.bg ∧
  ((p.ph = 1 ∧ V b = none ∧ p.tk = 0 ∧ 0 ≤ p.best ∧ (p.best = 0 ∨ (p.best < b ∧ V p.best = some p.fd)) ∧ ∀ a, p.pr.testBit a = true → High d a b ∧ ∀ c, p.best < c → c < b → ¬ A d a c) ∨
   ((p.ph = 2 ∨ p.ph = 3) ∧ V b = some p.v ∧ ∀ a, p.tk.testBit a = true → A d a b))
def VOK (n : Nat) (d : D) (V : Vs) (b : Int) (v : ByteArray) : Prop :=
  v ∈ d.bg ∧ ∃ Q : Nat, ∃ c : Int, enb Q n = true ∧ 0 ≤ c ∧ c < b ∧ (c = 0 ∨ V c = some v) ∧ ∀ a, a < n → Q.testBit a = true → High d a b ∧ ∀ c', c < c' → c' < b → ¬ A d a c'
structure Inv (n : Nat) (d : D) (V : Vs) : Prop where
  n0 : d.sl.length = n
  tkV : ∀ c h, d.tk c = some h → V c = some h.2
  slA : ∀ a s, d.sl[a]? = some s → 0 ≤ s.bal ∧ s.bal ≤ s.pr ∧ (s.bal = 0 ∨ V s.bal = some s.val) ∧ ∀ c, A d a c → c ≤ s.bal
  lts : ∀ x, x ∈ d.lt → LtOK n d V x
  pps : ∀ b p, d.pp b = some p → PpOK n d V b p
  vok : ∀ b v, V b = some v → VOK n d V b v
  cho : ∀ v, v ∈ d.ch → ∃ b h, V b = some v ∧ d.tk b = some h ∧ enb h.1 n = true
  frs : ∀ b, (V b ≠ none ∨ d.pp b ≠ none) → 0 < b ∧ b < 8 * ((d.bg.length : Int) + 1)
/-- how a step may turn it -/
structure Ext (d : D) (V : Vs) (d' : D) (V' : Vs) : Prop where
  bg : ∀ v, v ∈ d.bg → v ∈ d'.bg
  vs : ∀ b v, V b = some v → V' b = some v
  hi : ∀ a b, High d a b → High d' a b
  am : ∀ a c, A d a c → A d' a c
  an : ∀ a c b, High d a b → c < b → ¬ A d a c → ¬ A d' a c
variable {n : Nat} {d d' : D} {V V' : Vs}
theorem Ext.refl (d : D) (V : Vs) : Ext d V d V := ⟨fun _ h => h, fun _ _ h => h, fun _ _ h => h, fun _ _ h => h, fun _ _ _ _ _ h => h⟩
/-- nothing of slots and of what is accepted is otherwise -/
theorem Ext.same (hs : d'.sl = d.sl) (ht : d'.tk = d.tk) (hb : ∀ v, v ∈ d.bg → v ∈ d'.bg) (hv : ∀ b v, V b = some v → V' b = some v) : Ext d V d' V' := by
  have hA : ∀ a c, A d' a c ↔ A d a c := fun a c => by unfold A; rw [ht]
  exact ⟨hb, hv, fun a b ⟨s, h1, h2⟩ => ⟨s, by rw [hs]; exact h1, h2⟩, fun a c h => (hA a c).2 h, fun a c b _ _ h hh => h ((hA a c).1 hh)⟩
theorem Told.ext {a : Nat} {b acc : Int} {val : ByteArray} (h : Told d V a b acc val) (e : Ext d V d' V') : Told d' V' a b acc val :=
  ⟨e.hi _ _ h.1, h.2.1, h.2.2.1.imp id (fun k => ⟨k.1, e.vs _ _ k.2⟩), fun c h1 h2 => e.an _ _ _ h.1 h2 (h.2.2.2 c h1 h2)⟩
theorem LtOK.ext {x : Lt} (h : LtOK n d V x) (e : Ext d V d' V') : LtOK n d' V' x := by
  obtain ⟨h1, h2, h3, h4, h5⟩ := h
  refine ⟨h1, h2, h3, h4, ?_⟩
  rcases h5 with h | ⟨h, k⟩ | ⟨h, k⟩ | ⟨h, k⟩
  · exact .inl h
  · exact .inr (.inl ⟨h, k.ext e⟩)
  · exact .inr (.inr (.inl ⟨h, e.vs _ _ k⟩))
  · exact .inr (.inr (.inr ⟨h, e.am _ _ k⟩))
theorem VOK.ext {b : Int} {v : ByteArray} (h : VOK n d V b v) (e : Ext d V d' V') : VOK n d' V' b v := by
  obtain ⟨h1, Q, c, h2, h3, h4, h5, h6⟩ := h
  exact ⟨e.bg _ h1, Q, c, h2, h3, h4, h5.imp id (e.vs _ _), fun a ha hq => ⟨e.hi _ _ (h6 a ha hq).1, fun c' k1 k2 => e.an _ _ _ (h6 a ha hq).1 k2 ((h6 a ha hq).2 c' k1 k2)⟩⟩
theorem PpOK.ext {b : Int} {p : Pp} (h : PpOK n d V b p) (e : Ext d V d' V') (hn : V b = none → V' b = none) : PpOK n d' V' b p := by
  obtain ⟨h1, h2, h3⟩ := h
  refine ⟨h1, e.bg _ h2, ?_⟩
  rcases h3 with ⟨k1, k2, k3, k4, k5, k6⟩ | ⟨k1, k2, k3⟩
  · exact .inl ⟨k1, hn k2, k3, k4, k5.imp id (fun k => ⟨k.1, e.vs _ _ k.2⟩), fun a ha => ⟨e.hi _ _ (k6 a ha).1, fun c q1 q2 => e.an _ _ _ (k6 a ha).1 q2 ((k6 a ha).2 c q1 q2)⟩⟩
  · exact .inr ⟨k1, e.vs _ _ k2, fun a ha => e.am _ _ (k3 a ha)⟩
theorem allTo_mem {x y : Lt} {n : Nat} (h : y ∈ allTo n x) : ∃ i : Nat, i < n ∧ y = { x with dst := (i : Int) } := by
  obtain ⟨i, h1, h2⟩ := List.mem_map.1 h
  exact ⟨i, List.mem_range.1 h1, h2.symm⟩
/-- letters alone -/
theorem Inv.letters (h : Inv n d V) (l : List Lt) (hl : ∀ x, x ∈ l → LtOK n d V x) : Inv n { d with lt := l } V := by
  have e : Ext d V { d with lt := l } V := Ext.same rfl rfl (fun _ h => h) (fun _ _ h => h)
  exact ⟨h.n0, h.tkV, h.slA, fun x hx => (hl x hx).ext e, fun b p hp => (h.pps b p hp).ext e id, fun b v hv => (h.vok b v hv).ext e, h.cho, h.frs⟩
theorem Inv.begin (h : Inv n d V) (who : Int) (v : ByteArray) (h0 : 0 ≤ who) (h1 : who < n) (hn : n ≤ 8) : Inv n (beginD d who v) V := by
  unfold beginD
  split
  · exact h
  · obtain ⟨b, hb⟩ : ∃ b, nextB d who = b := ⟨_, rfl⟩
    rw [hb]
    have hbn : b = 8 * ((d.bg.length : Int) + 1) + who := hb.symm
    have hf : V b = none := by
      cases hv : V b with
      | none => rfl
      | some v => have := (h.frs b (.inl (by rw [hv]; simp))).2; omega
    generalize hd : D.mk d.sl (upd d.pp b (some (fresh b v))) (d.lt ++ allTo d.sl.length ⟨0, who, 0, b, 0, e0⟩) (d.bg ++ [v]) d.ch d.tk = d'
    have e : Ext d V d' V := by subst hd; exact Ext.same rfl rfl (fun _ h => List.mem_append_left _ h) (fun _ _ h => h)
    have hA : ∀ a c, A d' a c → A d a c := fun a c k => by subst hd; exact k
    refine ⟨by rw [← hd]; exact h.n0, by rw [← hd]; exact h.tkV, fun a s hs => ?_, fun x hx => ?_, fun b' p hp => ?_, fun b' v' hv => (h.vok b' v' hv).ext e, by rw [← hd]; exact h.cho, fun b' hb' => ?_⟩
    · rw [← hd] at hs
      obtain ⟨q1, q2, q3, q4⟩ := h.slA a s hs
      exact ⟨q1, q2, q3, fun c hc => q4 c (hA a c hc)⟩
    · rw [← hd] at hx
      rcases List.mem_append.1 hx with hx | hx
      · exact (h.lts x hx).ext e
      · obtain ⟨i, hi, rfl⟩ := allTo_mem hx
        rw [h.n0] at hi
        exact ⟨h0, h1, Int.natCast_nonneg i, (by show (i : Int) < n; omega), .inl rfl⟩
    · rw [← hd] at hp
      have hp : upd d.pp b (some (fresh b v)) b' = some p := hp
      by_cases hbb : b' = b
      · subst hbb
        rw [upd_self] at hp
        cases hp
        refine ⟨rfl, by rw [← hd]; exact List.mem_append_right _ (List.mem_singleton.2 rfl), .inl ⟨rfl, hf, rfl, Int.le_refl 0, .inl rfl, fun a ha => ?_⟩⟩
        rw [show (fresh b' v).pr = 0 from rfl, Nat.zero_testBit] at ha
        cases ha
      · rw [upd_ne _ _ hbb] at hp
        exact (h.pps b' p hp).ext e id
    · have hl : d'.bg.length = d.bg.length + 1 := by rw [← hd]; exact List.length_append
      rw [hl]
      by_cases hbb : b' = b
      · subst hbb; omega
      · have : V b' ≠ none ∨ d.pp b' ≠ none := by
          rcases hb' with k | k
          · exact .inl k
          · refine .inr ?_
            rw [← hd] at k
            have k : upd d.pp b (some (fresh b v)) b' ≠ none := k
            rwa [upd_ne _ _ hbb] at k
        have := h.frs b' this
        omega
theorem slot_get (h : d.sl.length = n) {i : Int} (h0 : 0 ≤ i) (h1 : i < n) : d.sl[i.toNat]? = some (slot d i) := by
  have hlt : i.toNat < d.sl.length := by omega
  unfold slot
  rw [List.getD_eq_getElem?_getD, List.getElem?_eq_getElem hlt]; rfl
theorem Inv.prom (h : Inv n d V) (x : Lt) (hx : LtOK n d V x) (hk : x.kd = 0) : Inv n (promD d x) V := by
  obtain ⟨f0, f1, t0, t1, _⟩ := hx
  unfold promD
  split
  case isFalse => exact h
  case isTrue hc =>
  obtain ⟨hB, hlt⟩ := hc
  have hg := slot_get h.n0 t0 t1
  obtain ⟨s, hs⟩ : ∃ s, slot d x.dst = s := ⟨_, rfl⟩
  rw [hs] at hlt hg ⊢
  obtain ⟨q1, q2, q3, q4⟩ := h.slA _ s hg
  obtain ⟨i, hi⟩ : ∃ i, x.dst.toNat = i := ⟨_, rfl⟩
  rw [hi] at hg q4 ⊢
  have hin : i < d.sl.length := (List.getElem?_eq_some_iff.1 hg).1
  generalize hd : D.mk (d.sl.set i { s with pr := x.bal }) d.pp (d.lt ++ [⟨1, x.dst, x.fr, x.bal, s.bal, s.val⟩]) d.bg d.ch d.tk = d'
  have hA : ∀ a c, A d' a c ↔ A d a c := fun a c => by subst hd; exact Iff.rfl
  have hnew : d'.sl[i]? = some { s with pr := x.bal } := by rw [← hd]; exact List.getElem?_set_self hin
  have hold : ∀ a, i ≠ a → d'.sl[a]? = d.sl[a]? := fun a ha => by rw [← hd]; exact List.getElem?_set_ne ha
  have hhi : ∀ a b, High d a b → High d' a b := fun a b ⟨s', k1, k2⟩ => by
    by_cases ha : i = a
    · subst ha
      rw [hg] at k1; cases k1
      exact ⟨_, hnew, by show b ≤ x.bal; omega⟩
    · exact ⟨s', by rw [hold a ha]; exact k1, k2⟩
  have e : Ext d V d' V := ⟨fun v hv => by rw [← hd]; exact hv, fun _ _ k => k, hhi, fun a c k => (hA a c).2 k, fun a c b _ _ k kk => k ((hA a c).1 kk)⟩
  refine ⟨by rw [← hd]; show (d.sl.set _ _).length = n; rw [List.length_set]; exact h.n0, by rw [← hd]; exact h.tkV, fun a s' hs' => ?_, fun y hy => ?_, fun b p hp => ?_, fun b v hv => (h.vok b v hv).ext e, by rw [← hd]; exact h.cho, by rw [← hd]; exact h.frs⟩
  · by_cases ha : i = a
    · subst ha
      rw [hnew] at hs'; cases hs'
      exact ⟨q1, by show s.bal ≤ x.bal; omega, q3, fun c hc => q4 c ((hA _ c).1 hc)⟩
    · rw [hold a ha] at hs'
      obtain ⟨r1, r2, r3, r4⟩ := h.slA a s' hs'
      exact ⟨r1, r2, r3, fun c hc => r4 c ((hA _ c).1 hc)⟩
  · rw [← hd] at hy
    rcases List.mem_append.1 hy with hy | hy
    · exact (h.lts y hy).ext e
    · rw [List.mem_singleton.1 hy]
      refine ⟨t0, t1, f0, f1, .inr (.inl ⟨rfl, ?_⟩)⟩
      show Told d' V x.dst.toNat x.bal s.bal s.val
      rw [hi]
      refine ⟨⟨_, hnew, Int.le_refl _⟩, q1, ?_, fun c k1 k2 hAc => ?_⟩
      · rcases q3 with k | k
        · exact .inl k
        · exact .inr ⟨by omega, k⟩
      · have := q4 c ((hA _ c).1 hAc); omega
  · rw [← hd] at hp
    exact (h.pps b p hp).ext e id
theorem Inv.acc (h : Inv n d V) (x : Lt) (hx : LtOK n d V x) (hk : x.kd = 2) : Inv n (accD d x) V := by
  obtain ⟨f0, f1, t0, t1, h5⟩ := hx
  have hv : V x.bal = some x.val := by
    rcases h5 with k | ⟨k, _⟩ | ⟨_, k⟩ | ⟨k, _⟩
    · omega
    · omega
    · exact k
    · omega
  unfold accD
  split
  case isFalse => exact h
  case isTrue hc =>
  obtain ⟨hB, hle⟩ := hc
  have hg := slot_get h.n0 t0 t1
  obtain ⟨s, hs⟩ : ∃ s, slot d x.dst = s := ⟨_, rfl⟩
  rw [hs] at hle hg
  obtain ⟨q1, q2, q3, q4⟩ := h.slA _ s hg
  obtain ⟨i, hi⟩ : ∃ i, x.dst.toNat = i := ⟨_, rfl⟩
  rw [hi] at hg q4 ⊢
  have hin : i < d.sl.length := (List.getElem?_eq_some_iff.1 hg).1
  obtain ⟨W, hW⟩ : ∃ W, whoOf d x.bal = W := ⟨_, rfl⟩
  rw [hW]
  generalize hd : D.mk (d.sl.set i ⟨x.bal, x.bal, x.val⟩) d.pp (d.lt ++ [⟨3, x.dst, x.fr, x.bal, 0, e0⟩]) d.bg d.ch (upd d.tk x.bal (some (bput W i, x.val))) = d'
  have htk : d'.tk = upd d.tk x.bal (some (bput W i, x.val)) := by rw [← hd]
  have hA1 : ∀ a c, A d a c → A d' a c := fun a c ⟨z, k1, k2⟩ => by
    by_cases hcb : c = x.bal
    · subst hcb
      have : W = z.1 := by rw [← hW]; unfold whoOf; rw [k1]
      exact ⟨(bput W i, x.val), by rw [htk, upd_self], bput_old (by rw [this]; exact k2)⟩
    · exact ⟨z, by rw [htk, upd_ne _ _ hcb]; exact k1, k2⟩
  have hA2 : ∀ a c, A d' a c → A d a c ∨ (a = i ∧ c = x.bal) := fun a c ⟨z, k1, k2⟩ => by
    rw [htk] at k1
    by_cases hcb : c = x.bal
    · subst hcb
      rw [upd_self] at k1; cases k1
      rcases bput_cases k2 with k | k
      · refine .inl ?_
        cases ht : d.tk x.bal with
        | none => rw [← hW] at k; unfold whoOf at k; rw [ht] at k; rw [show (match (none : Option (Nat × ByteArray)) with | some h => h.1 | none => 0) = 0 from rfl, Nat.zero_testBit] at k; cases k
        | some y => rw [← hW] at k; unfold whoOf at k; rw [ht] at k; exact ⟨y, ht, k⟩
      · exact .inr ⟨k.symm, rfl⟩
    · rw [upd_ne _ _ hcb] at k1
      exact .inl ⟨z, k1, k2⟩
  have hAi : A d' i x.bal := ⟨(bput W i, x.val), by rw [htk, upd_self], bput_self _ _⟩
  have hnew : d'.sl[i]? = some ⟨x.bal, x.bal, x.val⟩ := by rw [← hd]; exact List.getElem?_set_self hin
  have hold : ∀ a, i ≠ a → d'.sl[a]? = d.sl[a]? := fun a ha => by rw [← hd]; exact List.getElem?_set_ne ha
  have hhi : ∀ a b, High d a b → High d' a b := fun a b ⟨s', k1, k2⟩ => by
    by_cases ha : i = a
    · subst ha
      rw [hg] at k1; cases k1
      exact ⟨_, hnew, by show b ≤ x.bal; omega⟩
    · exact ⟨s', by rw [hold a ha]; exact k1, k2⟩
  have e : Ext d V d' V := ⟨fun v hv => by rw [← hd]; exact hv, fun _ _ k => k, hhi, hA1, fun a c b ⟨s', k1, k2⟩ hcb hna hA => by
    rcases hA2 a c hA with k | ⟨rfl, rfl⟩
    · exact hna k
    · rw [hg] at k1; cases k1; omega⟩
  refine ⟨by rw [← hd]; show (d.sl.set _ _).length = n; rw [List.length_set]; exact h.n0, fun c z hz => ?_, fun a s' hs' => ?_, fun y hy => ?_, fun b p hp => ?_, fun b v hv => (h.vok b v hv).ext e, fun v hv' => ?_, by rw [← hd]; exact h.frs⟩
  · rw [htk] at hz
    by_cases hcb : c = x.bal
    · subst hcb; rw [upd_self] at hz; cases hz; exact hv
    · rw [upd_ne _ _ hcb] at hz; exact h.tkV c z hz
  · by_cases ha : i = a
    · subst ha
      rw [hnew] at hs'; cases hs'
      refine ⟨by show 0 ≤ x.bal; omega, Int.le_refl _, .inr hv, fun c hc => ?_⟩
      show c ≤ x.bal
      rcases hA2 _ c hc with k | ⟨_, rfl⟩
      · have := q4 c k; omega
      · exact Int.le_refl _
    · rw [hold a ha] at hs'
      obtain ⟨r1, r2, r3, r4⟩ := h.slA a s' hs'
      refine ⟨r1, r2, r3, fun c hc => ?_⟩
      rcases hA2 _ c hc with k | ⟨k, _⟩
      · exact r4 c k
      · exact absurd k.symm ha
  · rw [← hd] at hy
    rcases List.mem_append.1 hy with hy | hy
    · exact (h.lts y hy).ext e
    · rw [List.mem_singleton.1 hy]
      refine ⟨t0, t1, f0, f1, .inr (.inr (.inr ⟨rfl, ?_⟩))⟩
      show A d' x.dst.toNat x.bal
      rw [hi]; exact hAi
  · rw [← hd] at hp
    exact (h.pps b p hp).ext e id
  · rw [← hd] at hv'
    obtain ⟨b, z, k1, k2, k3⟩ := h.cho v hv'
    by_cases hcb : b = x.bal
    · subst hcb
      rw [hv] at k1; cases k1
      refine ⟨x.bal, (bput W i, x.val), hv, by rw [htk, upd_self], enb_le (fun a _ ha => bput_old ?_) k3⟩
      have : W = z.1 := by rw [← hW]; unfold whoOf; rw [k2]
      rw [this]; exact ha
    · exact ⟨b, z, k1, by rw [htk, upd_ne _ _ hcb]; exact k2, k3⟩
theorem Inv.tell (h : Inv n d V) (x : Lt) (hx : LtOK n d V x) (hk0 : x.kd ≠ 0) (hk2 : x.kd ≠ 2) : ∃ V', Inv n (tellD d x) V' ∧ ∀ b v, V b = some v → V' b = some v := by
  obtain ⟨f0, f1, t0, t1, h5⟩ := hx
  unfold tellD
  cases hp : d.pp x.bal with
  | none => exact ⟨V, h, fun _ _ k => k⟩
  | some p =>
    obtain ⟨p1, p2, p3⟩ := h.pps _ p hp
    have hfr := h.frs x.bal (.inr (by rw [hp]; simp))
    have hfi : ((x.fr.toNat : Nat) : Int) = x.fr := Int.toNat_of_nonneg f0
    by_cases hk : x.kd = 1
    · have hT : Told d V x.fr.toNat x.bal x.acc x.val := by
        rcases h5 with k | ⟨_, k⟩ | ⟨k, _⟩ | ⟨k, _⟩
        · omega
        · exact k
        · omega
        · omega
      show ∃ V', Inv n (if x.kd = 1 then _ else _) V' ∧ _
      rw [if_pos hk, h.n0]
      unfold promP
      by_cases hc : cnts n 1 p x.fr x.bal p.pr
      · rw [if_pos hc]
        obtain ⟨c1, _, _, _, c5⟩ := hc
        rcases p3 with ⟨k1, k2, k3, k4, k5, k6⟩ | ⟨k1, _⟩
        case inr => omega
        obtain ⟨B, hB⟩ : ∃ B, best' p x.acc = B := ⟨_, rfl⟩
        obtain ⟨F, hF⟩ : ∃ F, fd' p x.acc x.val = F := ⟨_, rfl⟩
        have hB0 : 0 ≤ B := by rw [← hB]; unfold best'; split <;> omega
        have hBge : p.best ≤ B ∧ x.acc ≤ B := by rw [← hB]; unfold best'; split <;> omega
        have hBV : B = 0 ∨ (B < x.bal ∧ V B = some F) := by
          rw [← hB, ← hF]; unfold best' fd'
          split
          · rcases hT.2.2.1 with k | k
            · omega
            · exact .inr k
          · exact k5
        have hpr : ∀ a, (bput p.pr x.fr.toNat).testBit a = true → High d a x.bal ∧ ∀ c, B < c → c < x.bal → ¬ A d a c := fun a ha => by
          rcases bput_cases ha with k | rfl
          · exact ⟨(k6 a k).1, fun c q1 q2 => (k6 a k).2 c (by omega) q2⟩
          · exact ⟨hT.1, fun c q1 q2 => hT.2.2.2 c (by omega) q2⟩
        rw [hB, hF]
        by_cases hE : enb (bput p.pr x.fr.toNat) n = true
        · rw [if_pos hE]
          obtain ⟨v, hv⟩ : ∃ v, (if B > 0 then F else p.v) = v := ⟨_, rfl⟩
          have hvb : v ∈ d.bg := by
            rw [← hv]
            split
            · rcases hBV with k | ⟨_, k⟩
              · omega
              · exact (h.vok B F k).1
            · exact p2
          rw [hv]
          simp only [if_true]
          generalize hd : D.mk d.sl (upd d.pp x.bal (some ⟨p.b, 2, v, B, F, bput p.pr x.fr.toNat, p.tk⟩)) (d.lt ++ allTo n ⟨2, x.dst, 0, x.bal, 0, v⟩) d.bg d.ch d.tk = d'
          have hvs : ∀ b v', V b = some v' → upd V x.bal (some v) b = some v' := fun b v' k => by
            by_cases hb : b = x.bal
            · subst hb; rw [k2] at k; cases k
            · rw [upd_ne _ _ hb]; exact k
          have e : Ext d V d' (upd V x.bal (some v)) := by subst hd; exact Ext.same rfl rfl (fun _ k => k) hvs
          have hA : ∀ a c, A d' a c ↔ A d a c := fun a c => by subst hd; exact Iff.rfl
          refine ⟨upd V x.bal (some v), ⟨by rw [← hd]; exact h.n0, fun c z hz => hvs _ _ (h.tkV c z (by rw [← hd] at hz; exact hz)), fun a s hs => ?_, fun y hy => ?_, fun b q hq => ?_, fun b w hw => ?_, fun w hw => ?_, fun b hb => ?_⟩, hvs⟩
          · rw [← hd] at hs
            obtain ⟨r1, r2, r3, r4⟩ := h.slA a s hs
            exact ⟨r1, r2, r3.imp id (hvs _ _), fun c hc => r4 c ((hA _ c).1 hc)⟩
          · rw [← hd] at hy
            rcases List.mem_append.1 hy with hy | hy
            · exact (h.lts y hy).ext e
            · obtain ⟨i, hi, rfl⟩ := allTo_mem hy
              exact ⟨t0, t1, Int.natCast_nonneg i, (by show (i : Int) < n; omega), .inr (.inr (.inl ⟨rfl, upd_self _ _ _⟩))⟩
          · rw [← hd] at hq
            have hq : upd d.pp x.bal _ b = some q := hq
            by_cases hb : b = x.bal
            · subst hb
              rw [upd_self] at hq; cases hq
              refine ⟨p1, by rw [← hd]; exact hvb, .inr ⟨.inl rfl, upd_self _ _ _, fun a ha => ?_⟩⟩
              rw [show (Pp.mk p.b 2 v B F (bput p.pr x.fr.toNat) p.tk).tk = 0 from k3, Nat.zero_testBit] at ha
              cases ha
            · rw [upd_ne _ _ hb] at hq
              exact (h.pps b q hq).ext e (fun k => by rw [upd_ne _ _ hb]; exact k)
          · by_cases hb : b = x.bal
            · subst hb
              rw [upd_self] at hw; cases hw
              refine ⟨by rw [← hd]; exact hvb, bput p.pr x.fr.toNat, B, hE, hB0, ?_, ?_, fun a _ ha => ⟨e.hi _ _ (hpr a ha).1, fun c q1 q2 k => (hpr a ha).2 c q1 q2 ((hA _ _).1 k)⟩⟩
              · rcases hBV with k | k
                · omega
                · exact k.1
              · rcases hBV with k | k
                · exact .inl k
                · refine .inr ?_
                  by_cases hh : B > 0
                  · have hvF : F = v := by rw [← hv, if_pos hh]
                    rw [← hvF]
                    rw [← hvF] at hvs
                    exact hvs _ _ k.2
                  · have hz : B = 0 := by omega
                    subst hz
                    have := (h.frs 0 (.inl (by rw [k.2]; simp))).1
                    omega
            · rw [upd_ne _ _ hb] at hw
              exact (h.vok b w hw).ext e
          · rw [← hd] at hw
            obtain ⟨b, z, q1, q2, q3⟩ := h.cho w hw
            exact ⟨b, z, hvs _ _ q1, by rw [← hd]; exact q2, q3⟩
          · rw [show d'.bg = d.bg by rw [← hd]]
            by_cases hbb : b = x.bal
            · rw [hbb]; exact hfr
            · refine h.frs b (hb.imp (fun k => by rwa [upd_ne _ _ hbb] at k) (fun k => ?_))
              rw [← hd] at k
              have k : upd d.pp x.bal _ b ≠ none := k
              rwa [upd_ne _ _ hbb] at k
        · rw [if_neg hE]
          simp only [Bool.false_eq_true, if_false, List.append_nil]
          generalize hd : D.mk d.sl (upd d.pp x.bal (some ⟨p.b, p.ph, p.v, B, F, bput p.pr x.fr.toNat, p.tk⟩)) d.lt d.bg d.ch d.tk = d'
          have e : Ext d V d' V := by subst hd; exact Ext.same rfl rfl (fun _ k => k) (fun _ _ k => k)
          have hA : ∀ a c, A d' a c ↔ A d a c := fun a c => by subst hd; exact Iff.rfl
          refine ⟨V, ⟨by rw [← hd]; exact h.n0, by rw [← hd]; exact h.tkV, by rw [← hd]; exact h.slA, fun y hy => (h.lts y (by rw [← hd] at hy; exact hy)).ext e, fun b q hq => ?_, fun b w hw => (h.vok b w hw).ext e, by rw [← hd]; exact h.cho, fun b hb => ?_⟩, fun _ _ k => k⟩
          · rw [← hd] at hq
            have hq : upd d.pp x.bal _ b = some q := hq
            by_cases hb : b = x.bal
            · subst hb
              rw [upd_self] at hq; cases hq
              exact ⟨p1, by rw [← hd]; exact p2, .inl ⟨k1, k2, k3, hB0, hBV, fun a ha => ⟨e.hi _ _ (hpr a ha).1, fun c q1 q2 k => (hpr a ha).2 c q1 q2 ((hA _ _).1 k)⟩⟩⟩
            · rw [upd_ne _ _ hb] at hq
              exact (h.pps b q hq).ext e id
          · rw [show d'.bg = d.bg by rw [← hd]]
            by_cases hbb : b = x.bal
            · rw [hbb]; exact hfr
            · refine h.frs b (hb.imp id (fun k => ?_))
              rw [← hd] at k
              have k : upd d.pp x.bal _ b ≠ none := k
              rwa [upd_ne _ _ hbb] at k
      · rw [if_neg hc]
        simp only [Bool.false_eq_true, if_false, List.append_nil]
        have e : upd d.pp x.bal (some p) = d.pp := funext fun b => by
          by_cases hb : b = x.bal
          · subst hb; rw [upd_self, hp]
          · rw [upd_ne _ _ hb]
        rw [e]
        exact ⟨V, h, fun _ _ k => k⟩
    · have hAc : A d x.fr.toNat x.bal := by
        rcases h5 with k | ⟨k, _⟩ | ⟨k, _⟩ | ⟨_, k⟩
        · omega
        · omega
        · omega
        · exact k
      show ∃ V', Inv n (if x.kd = 1 then _ else _) V' ∧ _
      rw [if_neg hk, h.n0]
      refine ⟨V, ?_, fun _ _ k => k⟩
      unfold accP
      by_cases hc : cnts n 2 p x.fr x.bal p.tk
      · rw [if_pos hc]
        obtain ⟨c1, _, _, _, c5⟩ := hc
        rcases p3 with ⟨k1, _⟩ | ⟨k1, k2, k3⟩
        case inl => omega
        have htk : ∀ a, (bput p.tk x.fr.toNat).testBit a = true → A d a x.bal := fun a ha => by
          rcases bput_cases ha with k | rfl
          · exact k3 a k
          · exact hAc
        by_cases hE : enb (bput p.tk x.fr.toNat) n = true
        · rw [if_pos hE]
          simp only [if_true]
          generalize hd : D.mk d.sl (upd d.pp x.bal (some ⟨p.b, 3, p.v, p.best, p.fd, p.pr, bput p.tk x.fr.toNat⟩)) d.lt d.bg (d.ch ++ [p.v]) d.tk = d'
          have e : Ext d V d' V := by subst hd; exact Ext.same rfl rfl (fun _ k => k) (fun _ _ k => k)
          refine ⟨by rw [← hd]; exact h.n0, by rw [← hd]; exact h.tkV, by rw [← hd]; exact h.slA, fun y hy => (h.lts y (by rw [← hd] at hy; exact hy)).ext e, fun b q hq => ?_, fun b w hw => (h.vok b w hw).ext e, fun w hw => ?_, fun b hb => ?_⟩
          · rw [← hd] at hq
            have hq : upd d.pp x.bal _ b = some q := hq
            by_cases hb : b = x.bal
            · subst hb
              rw [upd_self] at hq; cases hq
              exact ⟨p1, by rw [← hd]; exact p2, .inr ⟨.inr rfl, k2, fun a ha => e.am _ _ (htk a ha)⟩⟩
            · rw [upd_ne _ _ hb] at hq
              exact (h.pps b q hq).ext e id
          · rw [← hd] at hw
            rcases List.mem_append.1 hw with hw | hw
            · obtain ⟨b, z, q1, q2, q3⟩ := h.cho w hw
              exact ⟨b, z, q1, by rw [← hd]; exact q2, q3⟩
            · rw [List.mem_singleton.1 hw]
              obtain ⟨z, z1, z2⟩ := hAc
              refine ⟨x.bal, z, k2, by rw [← hd]; exact z1, enb_le (fun a _ ha => ?_) hE⟩
              obtain ⟨y, y1, y2⟩ := htk a ha
              rw [z1] at y1; cases y1; exact y2
          · rw [show d'.bg = d.bg by rw [← hd]]
            by_cases hbb : b = x.bal
            · rw [hbb]; exact hfr
            · refine h.frs b (hb.imp id (fun k => ?_))
              rw [← hd] at k
              have k : upd d.pp x.bal _ b ≠ none := k
              rwa [upd_ne _ _ hbb] at k
        · rw [if_neg hE]
          simp only [Bool.false_eq_true, if_false, List.append_nil]
          generalize hd : D.mk d.sl (upd d.pp x.bal (some ⟨p.b, p.ph, p.v, p.best, p.fd, p.pr, bput p.tk x.fr.toNat⟩)) d.lt d.bg d.ch d.tk = d'
          have e : Ext d V d' V := by subst hd; exact Ext.same rfl rfl (fun _ k => k) (fun _ _ k => k)
          refine ⟨by rw [← hd]; exact h.n0, by rw [← hd]; exact h.tkV, by rw [← hd]; exact h.slA, fun y hy => (h.lts y (by rw [← hd] at hy; exact hy)).ext e, fun b q hq => ?_, fun b w hw => (h.vok b w hw).ext e, by rw [← hd]; exact h.cho, fun b hb => ?_⟩
          · rw [← hd] at hq
            have hq : upd d.pp x.bal _ b = some q := hq
            by_cases hb : b = x.bal
            · subst hb
              rw [upd_self] at hq; cases hq
              exact ⟨p1, by rw [← hd]; exact p2, .inr ⟨k1, k2, fun a ha => e.am _ _ (htk a ha)⟩⟩
            · rw [upd_ne _ _ hb] at hq
              exact (h.pps b q hq).ext e id
          · rw [show d'.bg = d.bg by rw [← hd]]
            by_cases hbb : b = x.bal
            · rw [hbb]; exact hfr
            · refine h.frs b (hb.imp id (fun k => ?_))
              rw [← hd] at k
              have k : upd d.pp x.bal _ b ≠ none := k
              rwa [upd_ne _ _ hbb] at k
      · rw [if_neg hc]
        simp only [Bool.false_eq_true, if_false, List.append_nil]
        have e : upd d.pp x.bal (some p) = d.pp := funext fun b => by
          by_cases hb : b = x.bal
          · subst hb; rw [upd_self, hp]
          · rw [upd_ne _ _ hb]
        rw [e]
        exact h
theorem Inv.forget (h : Inv n d V) (who : Int) : Inv n (forgD d who) V := by
  have e : Ext d V (forgD d who) V := Ext.same rfl rfl (fun _ k => k) (fun _ _ k => k)
  have hpp : ∀ b p, (forgD d who).pp b = some p → d.pp b = some p := fun b p k => by
    have k : (match d.pp b with | none => none | some p => if Int.tmod b 8 = who ∧ p.ph ≠ 3 then none else some p) = some p := k
    cases hq : d.pp b with
    | none => rw [hq] at k; cases k
    | some q =>
      rw [hq] at k
      by_cases hc : Int.tmod b 8 = who ∧ q.ph ≠ 3
      · rw [show (match some q with | none => none | some p => if Int.tmod b 8 = who ∧ p.ph ≠ 3 then none else some p) = if Int.tmod b 8 = who ∧ q.ph ≠ 3 then none else some q from rfl, if_pos hc] at k; cases k
      · rw [show (match some q with | none => none | some p => if Int.tmod b 8 = who ∧ p.ph ≠ 3 then none else some p) = if Int.tmod b 8 = who ∧ q.ph ≠ 3 then none else some q from rfl, if_neg hc] at k; exact k
  refine ⟨h.n0, h.tkV, h.slA, fun x hx => (h.lts x hx).ext e, fun b p hp => (h.pps b p (hpp b p hp)).ext e id, fun b v hv => (h.vok b v hv).ext e, h.cho, fun b hb => h.frs b (hb.imp id (fun k => ?_))⟩
  cases hq : (forgD d who).pp b with
  | none => exact absurd hq k
  | some q => rw [hpp b q hq]; simp
theorem md_in (x : Int) (m : Nat) (h : 0 < m) : 0 ≤ md x m ∧ md x m < m := by
  unfold md
  have h1 : -(m : Int) < Int.tmod x m := by
    have := Int.tmod_lt_of_pos (-x) (show (0 : Int) < m by omega)
    rw [Int.neg_tmod] at this; omega
  have h2 := Int.tmod_lt_of_pos x (show (0 : Int) < m by omega)
  have h3 : 0 ≤ Int.tmod x m + m := by omega
  exact ⟨Int.tmod_nonneg _ h3, Int.tmod_lt_of_pos _ (by omega)⟩
theorem Inv.step (h : Inv n d V) (hn0 : 0 < n) (hn : n ≤ 8) (s : St) : ∃ V', Inv n (doD d s) V' ∧ ∀ b v, V b = some v → V' b = some v := by
  unfold doD
  have hw := md_in s.who d.sl.length (by rw [h.n0]; exact hn0)
  split
  · rw [h.n0] at hw ⊢
    exact ⟨V, h.begin _ _ hw.1 hw.2 hn, fun _ _ k => k⟩
  · split
    · exact ⟨V, h.forget _, fun _ _ k => k⟩
    · split
      · cases hx : d.lt[(md s.n d.lt.length).toNat]? with
        | none => exact ⟨V, h, fun _ _ k => k⟩
        | some x =>
          have hm : x ∈ d.lt := List.mem_of_getElem? hx
          have hE := h.letters (d.lt.eraseIdx (md s.n d.lt.length).toNat) (fun y hy => h.lts y (List.mem_of_mem_eraseIdx hy))
          have hxE : LtOK n { d with lt := d.lt.eraseIdx (md s.n d.lt.length).toNat } V x := (h.lts x hm).ext (Ext.same rfl rfl (fun _ k => k) (fun _ _ k => k))
          show ∃ V', Inv n (if s.kd = 3 then _ else if s.kd = 1 then _ else _) V' ∧ _
          split
          · exact ⟨V, h.letters _ (fun y hy => by
              rcases List.mem_append.1 hy with k | k
              · exact h.lts y k
              · rw [List.mem_singleton.1 k]; exact h.lts x hm), fun _ _ k => k⟩
          · split
            · unfold readD
              split
              · rename_i hk; exact ⟨V, hE.prom x hxE hk, fun _ _ k => k⟩
              · split
                · rename_i hk; exact ⟨V, hE.acc x hxE hk, fun _ _ k => k⟩
                · rename_i h0 h2; exact hE.tell x hxE h0 h2
            · exact ⟨V, hE, fun _ _ k => k⟩
      · exact ⟨V, h, fun _ _ k => k⟩
theorem Inv.new (n : Nat) : Inv n (newD n) (fun _ => none) := by
  refine ⟨List.length_replicate, fun c h k => (by cases k), fun a s hs => ?_, fun x hx => (by cases hx), fun b p hp => (by cases hp), fun b v hv => (by cases hv), fun v hv => (by cases hv), fun b hb => (by rcases hb with k | k <;> exact absurd rfl k)⟩
  have : s = sl0 := List.eq_of_mem_replicate (List.mem_of_getElem? hs)
  subst this
  exact ⟨Int.le_refl 0, Int.le_refl 0, .inl rfl, fun c ⟨h, k, _⟩ => (by cases k)⟩
/-- a value that a majority has accepted is that of all higher ballots -/
theorem Inv.agree (h : Inv n d V) {b : Int} {z : Nat × ByteArray} (hz : d.tk b = some z) (he : enb z.1 n = true) : ∀ (k : Nat) (b' : Int) (v' : ByteArray), b'.toNat < k → b ≤ b' → V b' = some v' → v' = z.2
  | 0, b', v', hk, _, _ => absurd hk (Nat.not_lt_zero _)
  | k + 1, b', v', hk, hle, hv => by
    have hb := h.tkV b z hz
    have hb0 := (h.frs b (.inl (by rw [hb]; simp))).1
    by_cases hbb : b' = b
    · subst hbb; rw [hb] at hv; cases hv; rfl
    · obtain ⟨_, Q, c, q1, q2, q3, q4, q5⟩ := h.vok b' v' hv
      obtain ⟨a, ha, a1, a2⟩ := enb_share he q1
      have hAb : A d a b := ⟨z, hz, a1⟩
      have hcb : b ≤ c := by
        apply Classical.byContradiction
        intro hh
        exact (q5 a ha a2).2 b (by omega) (by omega) hAb
      have hvc : V c = some v' := by
        rcases q4 with k | k
        · omega
        · exact k
      exact h.agree hz he k c v' (by omega) hcb hvc
theorem Inv.one (h : Inv n d V) {b b' : Int} {z z' : Nat × ByteArray} (hz : d.tk b = some z) (he : enb z.1 n = true) (hz' : d.tk b' = some z') (he' : enb z'.1 n = true) : z.2 = z'.2 := by
  rcases Int.le_total b b' with k | k
  · exact (h.agree hz he (b'.toNat + 1) b' z'.2 (Nat.lt_succ_self _) k (h.tkV b' z' hz')).symm
  · exact h.agree hz' he' (b.toNat + 1) b z.2 (Nat.lt_succ_self _) k (h.tkV b z hz)
end Go.Proofs.Ythedebalecnldaa.Dec
namespace Go.Proofs.Ythedebalecnldaa.Rp
open Go.Proofs.Ythedebalecnldaa.Dec (Sl Pp upd upd_self upd_ne e0 fresh promP accP isB sl0)
set_option linter.unusedVariables false
open Classical
noncomputable section
/-- a letter -/
structure Mg where
  kd : Int
  fr : Int
  dst : Int
  sl : Int
  bal : Int
  acc : Int
  val : ByteArray
/-- a request -/
structure Rq where
  cl : Int
  sq : Int
  leaf : ByteArray
  key : ByteArray
  val : ByteArray
/-- a reply -/
structure Ry where
  err : Int
  ix : Int
  hd : Int
/-- what a client asked last -/
structure Lst where
  sq : Int
  ct : Int
  ry : Ry
/-- a head -/
structure Hd where
  sq : Int
  sz : Int
  tm : Int
  rt : ByteArray
  mp : ByteArray
/-- the log's state -/
structure St where
  rq : List Rq
  cl : List Lst
  hd : List Hd
def ry0 : Ry := ⟨0, 0, 0⟩
def lst0 : Lst := ⟨0, 0, ry0⟩
def st0 : St := ⟨[], List.replicate 4 lst0, []⟩
/-- requests that are right -/
def rightQ (x : Rq) : Prop := 0 ≤ x.cl ∧ x.cl < 4 ∧ 1 ≤ x.sq ∧ x.sq ≤ 2147483647 ∧ 1 ≤ x.leaf.size ∧ x.leaf.size ≤ 200 ∧ x.key.size ≤ 50 ∧ x.val.size ≤ 100 ∧ (x.key ≠ e0 ∨ x.val = e0)
instance (x : Rq) : Decidable (rightQ x) := inferInstanceAs (Decidable (_ ∧ _ ∧ _ ∧ _ ∧ _ ∧ _ ∧ _ ∧ _ ∧ _))
/-- a replica -/
structure R where
  id : Nat
  n : Nat
  rd : Int
  log : List ByteArray
  lat : Int → Option ByteArray
  sl : Int → Option Sl
  qu : List ByteArray
  p : Option Pp
  out : List Mg
  st : St
  oc : Int × Int → Option Ry
def newR (id n : Nat) : R := ⟨id, n, 0, [], fun _ => none, fun _ => none, [], none, [], st0, fun _ => none⟩
/-- what commands are, and the two roots -/
structure Cm where
  rq : ByteArray → Option Rq
  tm : ByteArray → Option Int
  rt : List Rq → ByteArray
  mp : List Rq → ByteArray
variable (c : Cm)
def sendR (r : R) (m : Mg) : R := { r with out := r.out ++ [{ m with fr := r.id }] }
/-- the letters that go to all -/
def toAll (r : R) (m : Mg) (self : Bool) : List Mg := ((List.range r.n).filter fun i => decide (i ≠ r.id) || self).map fun (i : Nat) => { m with dst := (i : Int), fr := r.id }
def allR (r : R) (m : Mg) (self : Bool) : R := { r with out := r.out ++ toAll r m self }
def ballotR (r : R) : Int := 8 * (r.rd + 1) + r.id
def beginR (r : R) : R :=
  if r.p.isSome = true then r else match r.qu with
  | [] => r
  | v :: _ => if 1000 ≤ r.log.length ∨ 2147483639 < ballotR r then r
    else allR { r with rd := r.rd + 1, p := some (fresh (ballotR r) v) } ⟨1, 0, 0, r.log.length, ballotR r, 0, e0⟩ true
def wantR (r : R) (b : ByteArray) : R := if b ∈ r.qu then r else beginR { r with qu := r.qu ++ [b] }
def rightM (r : R) (m : Mg) : Prop := 1 ≤ m.kd ∧ m.kd ≤ 7 ∧ m.dst = r.id ∧ 0 ≤ m.fr ∧ m.fr < r.n ∧ 0 ≤ m.sl ∧ m.sl < 1000 ∧ 0 ≤ m.bal ∧ m.bal ≤ 2147483647 ∧ 0 ≤ m.acc ∧ m.acc ≤ 2147483647 ∧ m.val.size ≤ 1000
instance (r : R) (m : Mg) : Decidable (rightM r m) := inferInstanceAs (Decidable (_ ∧ _ ∧ _ ∧ _ ∧ _ ∧ _ ∧ _ ∧ _ ∧ _ ∧ _ ∧ _ ∧ _))
end
end Go.Proofs.Ythedebalecnldaa.Rp
namespace Go.Proofs.Ythedebalecnldaa.Mp
open Go Go.RowKit Go.MapKept
open Go.Maps (Keyed)
open Go.ChangeMaps (setBlock heap_setBlock_same heap_setBlock_other)
set_option linter.unusedVariables false
set_option linter.unusedSimpArgs false
abbrev Cont := Value → Option Value
open Classical in
/-- the content with one key's element otherwise -/
noncomputable def put (f : Cont) (k v : Value) : Cont := fun x => if x = k then some v else f x
open Classical in
noncomputable def drop (f : Cont) (k : Value) : Cont := fun x => if x = k then none else f x
theorem put_self (f : Cont) (k v : Value) : put f k v k = some v := if_pos rfl
theorem put_ne (f : Cont) {k x : Value} (v : Value) (h : x ≠ k) : put f k v x = f x := if_neg h
/-- the entries es have just the content f -/
structure Ents (P : Program) (k : TypeId) (es : Array MapEntry) (clock : Nat) (f : Cont) : Prop where
  st : Stamped es clock
  ks : ∀ e, e ∈ es.toList → (∃ l, keyOf P k e.key = some l) ∧ f e.key = some e.val
  all : ∀ x v, f x = some v → ∃ e, e ∈ es.toList ∧ e.key = x
/-- block b is a map whose content is f -/
def IMap (w : World) (P : Program) (k : TypeId) (b : Nat) (f : Cont) : Prop := ∃ es clock, w.heap[b]? = some (.map es clock) ∧ Ents P k es clock f
variable {P : Program} {k t e ty : TypeId} {w w2 : World} {b : Nat} {f : Cont}
theorem IMap.lt (h : IMap w P k b f) : b < w.heap.size := by
  obtain ⟨es, clock, hb, _⟩ := h
  exact (Array.getElem?_eq_some_iff.1 hb).1
theorem IMap.block (h : IMap w P k b f) (e : w2.heap[b]? = w.heap[b]?) : IMap w2 P k b f := by
  obtain ⟨es, clock, hb, r⟩ := h
  exact ⟨es, clock, e.trans hb, r⟩
theorem IMap.below {n : Nat} (h : IMap w P k b f) (hB : Below n w w2) (hn : b < n) : IMap w2 P k b f := h.block (hB.block b hn)
theorem IMap.set (h : IMap w P k b f) {p : Addr} (hp : b ≠ p.block) (v : Value) : IMap (w.setCell p v) P k b f := h.block (RowKit.Below.heap_setCell _ _ _ _ hp)
theorem IMap.drew (h : IMap w P k b f) : IMap w.drew P k b f := h
theorem IMap.grown {row : Option Nat} (h : IMap w P k b f) (hg : w.grownBy w2 row) (hne : some b ≠ row) : IMap w2 P k b f := h.block (hg.block b h.lt hne)
/-- looked up -/
theorem IMap.look (h : IMap w P k b f) (c : Bool) (K : Keyed P k) (ht : P.underlying t = some (.map k e)) {z : Value} (hz : (zeroValue e).run P w = .ok z w) {key : Value} {kl : Lit} (hkey : keyOf P k key = some kl) :
    (Instr.lookup t (.map (some b)) key c).run P w = .ok (if c then .tuple #[(f key).getD z, .bool (f key).isSome] else (f key).getD z) w := by
  obtain ⟨es, clock, hb, st, ks, all⟩ := h
  rcases K.find w hkey es.toList (fun e he => (ks e he).1) with ⟨h1, h2⟩ | ⟨j, e0, h1, h2, h3⟩
  · have hf : f key = none := by
      cases hv : f key with
      | none => rfl
      | some v => obtain ⟨e, he, hek⟩ := all key v hv; exact absurd hek (h2 e he)
    rw [hf]
    simp [Instr.lookup, run_underlying ht, MapKept.run_getObj_map hb, K.check w _ hkey, h1, hz, Result.andThen]
  · have hf : f key = some e0.val := by rw [← h3]; exact (ks e0 (List.mem_of_getElem? h2)).2
    rw [hf]
    simp [Instr.lookup, run_underlying ht, MapKept.run_getObj_map hb, K.check w _ hkey, h1, Result.andThen]
/-- stored -/
theorem IMap.store (h : IMap w P k b f) (K : Keyed P k) (ht : P.underlying t = some (.map k e)) {key val : Value} {kl : Lit} (hkey : keyOf P k key = some kl) :
    ∃ w2, (Instr.mapUpdate t (.map (some b)) key val).run P w = .ok () w2 ∧ IMap w2 P k b (put f key val) ∧ w.mapTurned w2 b := by
  obtain ⟨es, clock, hb, st, ks, all⟩ := h
  rcases K.find w hkey es.toList (fun e he => (ks e he).1) with ⟨h1, h2⟩ | ⟨j, e0, h1, h2, h3⟩
  · refine ⟨_, ?_, ⟨es.push ⟨key, val, clock⟩, clock + 1, heap_setBlock_same hb _, stamped_push st h2, fun x hx => ?_, fun x v hv => ?_⟩, ⟨es, clock, _, _, hb, rfl⟩⟩
    · simp [Instr.mapUpdate, run_underlying ht, MapKept.run_getObj_map hb, K.check w false hkey, h1, MapKept.run_setObj_map _ hb, Result.andThen, setBlock]
    · simp only [Array.toList_push, List.mem_append, List.mem_singleton] at hx
      rcases hx with hx | rfl
      · exact ⟨(ks x hx).1, by rw [put_ne _ _ (h2 x hx)]; exact (ks x hx).2⟩
      · exact ⟨⟨_, hkey⟩, put_self _ _ _⟩
    · by_cases hxk : x = key
      · exact ⟨⟨key, val, clock⟩, by simp, hxk.symm⟩
      · rw [put_ne _ _ hxk] at hv
        obtain ⟨y, hy, hyk⟩ := all x v hv
        exact ⟨y, by simp [hy], hyk⟩
  · have hj : es[j]? = some e0 := by simpa using h2
    have hlist : (es.modify j (fun e' => { e' with key := key, val := val })).toList = es.toList.set j { e0 with key := key, val := val } := by rw [Array.toList_modify, Go.ChangeMaps.modify_eq_set _ _ _ _ h2]
    have hkeyf : ∀ e', es[j]? = some e' → ({ e' with key := key, val := val } : MapEntry).key = e'.key := fun e' he' => by rw [hj] at he'; cases he'; exact h3.symm
    have hpw := ((stamped_iff es clock).1 st).2.2
    have hjl : j < es.toList.length := (List.getElem?_eq_some_iff.1 h2).1
    refine ⟨_, ?_, ⟨es.modify j (fun e' => { e' with key := key, val := val }), clock, heap_setBlock_same hb _, stamped_modify st _ _ (fun _ _ => rfl) (fun e' _ he' => hkeyf e' he'), fun x hx => ?_, fun x v hv => ?_⟩, ⟨es, clock, _, _, hb, rfl⟩⟩
    · simp [Instr.mapUpdate, run_underlying ht, MapKept.run_getObj_map hb, K.check w false hkey, h1, hj, h3, K.stays w hkey, MapKept.run_setObj_map _ hb, Result.andThen, setBlock]
    · rw [hlist] at hx
      obtain ⟨i, hi, ex⟩ := List.getElem_of_mem hx
      rw [List.getElem_set] at ex
      by_cases hij : j = i
      · rw [if_pos hij] at ex
        subst ex
        exact ⟨⟨_, hkey⟩, put_self _ _ _⟩
      · rw [if_neg hij] at ex
        have hi' : i < es.toList.length := by simpa using hi
        have hxm : x ∈ es.toList := ex ▸ List.getElem_mem hi'
        have hne : x.key ≠ key := fun hh => by
          have ej : es.toList[j] = e0 := (List.getElem?_eq_some_iff.1 h2).2
          have ejk : es.toList[j].key = es.toList[i].key := (congrArg MapEntry.key ej).trans (h3.trans (hh.symm.trans (congrArg MapEntry.key ex).symm))
          rcases Nat.lt_or_gt_of_ne hij with q | q
          · exact List.pairwise_iff_getElem.1 hpw j i hjl hi' q ejk
          · exact List.pairwise_iff_getElem.1 hpw i j hi' hjl q ejk.symm
        exact ⟨(ks x hxm).1, by rw [put_ne _ _ hne]; exact (ks x hxm).2⟩
    · rw [hlist]
      by_cases hxk : x = key
      · exact ⟨{ e0 with key := key, val := val }, List.mem_iff_getElem.2 ⟨j, by simpa using hjl, by simp⟩, hxk.symm⟩
      · rw [put_ne _ _ hxk] at hv
        obtain ⟨y, hy, hyk⟩ := all x v hv
        obtain ⟨i, hi, ey⟩ := List.getElem_of_mem hy
        have hij : j ≠ i := fun hh => by
          subst hh
          have : es.toList[j] = e0 := (List.getElem?_eq_some_iff.1 h2).2
          rw [this] at ey
          exact hxk (by rw [← hyk, ← ey, h3])
        exact ⟨y, List.mem_iff_getElem.2 ⟨i, by simpa using hi, by rw [List.getElem_set_ne hij]; exact ey⟩, hyk⟩
end Go.Proofs.Ythedebalecnldaa.Mp
namespace Go.Proofs.Ythedebalecnldaa.Mem
open Go Go.Proofs Go.RowKit Go.Proofs.YthedebalecnldaaW.PrintWords
/-- a block: its number, its cells, its type -/
abbrev Blk := Nat × Array Value × TypeId
/-- the blocks l are new since w, each with its cells, no two the same; below them W is as w was -/
def Own (w W : World) (l : List Blk) : Prop :=
  Below w.heap.size w W ∧ (∀ (k : Nat) (b : Blk), l[k]? = some b → w.heap.size ≤ b.1 ∧ W.heap[b.1]? = some (.cells b.2.1 b.2.2 (0, 0))) ∧ ∀ (i j : Nat) (a b : Blk), l[i]? = some a → l[j]? = some b → i ≠ j → a.1 ≠ b.1
variable {w W W2 : World} {l : List Blk} {g : Nat} {cs : Array Value} {t : TypeId}
theorem Own.nil (w : World) : Own w w [] := ⟨Below.refl _ _, fun _ _ h => by simp at h, fun _ _ _ _ h => by simp at h⟩
theorem Own.below (h : Own w W l) : Below w.heap.size w W := h.1
theorem Own.blk (h : Own w W l) (k : Nat) (e : l[k]? = some (g, cs, t)) : W.heap[g]? = some (.cells cs t (0, 0)) := (h.2.1 k _ e).2
theorem Own.new_le (h : Own w W l) (k : Nat) (e : l[k]? = some (g, cs, t)) : w.heap.size ≤ g := (h.2.1 k _ e).1
theorem Own.cell (h : Own w W l) (k : Nat) (e : l[k]? = some (g, cs, t)) (i : Nat) : W.cell? ⟨g, i, none⟩ = cs[i]? := blk_cell (h.blk k e) i
theorem Own.frozen (h : Own w W l) (k : Nat) (e : l[k]? = some (g, cs, t)) (i : Nat) : W.frozen? ⟨g, i, none⟩ = false := blk_frozen (h.blk k e) i
theorem Own.size (h : Own w W l) : w.heap.size ≤ W.heap.size := h.1.size
/-- a world below whose own heap nothing has turned -/
theorem Own.step (h : Own w W l) (k : Below W.heap.size W W2) : Own w W2 l :=
  ⟨below_step h.1 k, fun i b e => ⟨(h.2.1 i b e).1, blk_below (h.2.1 i b e).2 k⟩, h.2.2⟩
theorem Own.new (h : Own w W l) (hg : g = W.heap.size) (hb : W2.heap[g]? = some (.cells cs t (0, 0))) (k : Below W.heap.size W W2) : Own w W2 (l ++ [(g, cs, t)]) := by
  have h2 := h.step k
  refine ⟨h2.1, fun i b e => ?_, fun i j a b ea eb hij => ?_⟩
  · rcases Nat.lt_trichotomy i l.length with hi | hi | hi
    · rw [List.getElem?_append_left hi] at e
      exact h2.2.1 i b e
    · subst hi
      rw [List.getElem?_append_right (Nat.le_refl _), Nat.sub_self] at e
      have : b = (g, cs, t) := by simpa using e.symm
      subst this
      exact ⟨by rw [hg]; exact h.size, hb⟩
    · rw [List.getElem?_eq_none (by simp; omega)] at e
      cases e
  · have key : ∀ i (a : Blk), (l ++ [(g, cs, t)])[i]? = some a → (i < l.length ∧ l[i]? = some a) ∨ (i = l.length ∧ a = (g, cs, t)) := fun i a e => by
      rcases Nat.lt_trichotomy i l.length with hi | hi | hi
      · rw [List.getElem?_append_left hi] at e
        exact .inl ⟨hi, e⟩
      · subst hi
        rw [List.getElem?_append_right (Nat.le_refl _), Nat.sub_self] at e
        exact .inr ⟨rfl, by simpa using e.symm⟩
      · rw [List.getElem?_eq_none (by simp; omega)] at e
        cases e
    rcases key i a ea with ⟨h1, h1'⟩ | ⟨h1, rfl⟩ <;> rcases key j b eb with ⟨h2, h2'⟩ | ⟨h2, rfl⟩
    · exact h.2.2 i j a b h1' h2' hij
    · have := blk_lt (h.2.1 i a h1').2
      show a.1 ≠ g
      omega
    · have := blk_lt (h.2.1 j b h2').2
      show g ≠ b.1
      omega
    · omega
theorem Own.put {cs' : Array Value} (h : Own w W l) (k : Nat) (e : l[k]? = some (g, cs, t)) (i : Nat) (v : Value) (ec : cs.setIfInBounds i v = cs') : Own w (W.setCell ⟨g, i, none⟩ v) (l.set k (g, cs', t)) := by
  have hk : k < l.length := (List.getElem?_eq_some_iff.1 e).1
  refine ⟨below_set h.1 (h.new_le k e), fun j b eb => ?_, fun i' j' a b ea eb hij => ?_⟩
  · by_cases hj : k = j
    · subst hj
      rw [List.getElem?_set_self hk] at eb
      cases eb
      exact ⟨h.new_le k e, blk_put (h.blk k e) i v ec⟩
    · rw [List.getElem?_set_ne hj] at eb
      exact ⟨(h.2.1 j b eb).1, blk_far (h.2.1 j b eb).2 (show b.1 ≠ g from fun q => h.2.2 j k b _ eb e (fun q => hj q.symm) q) v⟩
  · have key : ∀ i (a : Blk), (l.set k (g, cs', t))[i]? = some a → ∃ a' : Blk, l[i]? = some a' ∧ a'.1 = a.1 := fun i a e' => by
      by_cases hj : k = i
      · subst hj
        rw [List.getElem?_set_self hk] at e'
        cases e'
        exact ⟨_, e, rfl⟩
      · rw [List.getElem?_set_ne hj] at e'
        exact ⟨a, e', rfl⟩
    obtain ⟨a', ha, ea'⟩ := key i' a ea
    obtain ⟨b', hb, eb'⟩ := key j' b eb
    rw [← ea', ← eb']
    exact h.2.2 i' j' a' b' ha hb hij
theorem setRow_far {W : World} {g g2 : Nat} {o : Obj} (h : W.heap[g]? = some o) (hne : g ≠ g2) (cs : Array Value) : (W.setRow g2 cs).heap[g]? = some o := (setRow_other W g2 g cs hne).trans h
theorem below_row {w W : World} {g : Nat} {cs : Array Value} (h : Below w.heap.size w W) (hg : w.heap.size ≤ g) : Below w.heap.size w (W.setRow g cs) :=
  h.trans ⟨rfl, rfl, rfl, by rw [size_setRow]; exact Nat.le_refl _, fun k hk => setRow_other W g k cs (by omega)⟩
/-- a whole block written -/
theorem Own.row (h : Own w W l) (k : Nat) (e : l[k]? = some (g, cs, t)) (cs' : Array Value) : Own w (W.setRow g cs') (l.set k (g, cs', t)) := by
  have hk : k < l.length := (List.getElem?_eq_some_iff.1 e).1
  refine ⟨below_row h.1 (h.new_le k e), fun j b eb => ?_, fun i' j' a b ea eb hij => ?_⟩
  · by_cases hj : k = j
    · subst hj
      rw [List.getElem?_set_self hk] at eb
      cases eb
      exact ⟨h.new_le k e, setRow_heap W g cs cs' t (0, 0) (h.blk k e)⟩
    · rw [List.getElem?_set_ne hj] at eb
      exact ⟨(h.2.1 j b eb).1, setRow_far (h.2.1 j b eb).2 (show b.1 ≠ g from fun q => h.2.2 j k b _ eb e (fun q => hj q.symm) q) cs'⟩
  · have key : ∀ i (a : Blk), (l.set k (g, cs', t))[i]? = some a → ∃ a' : Blk, l[i]? = some a' ∧ a'.1 = a.1 := fun i a e' => by
      by_cases hj : k = i
      · subst hj
        rw [List.getElem?_set_self hk] at e'
        cases e'
        exact ⟨_, e, rfl⟩
      · rw [List.getElem?_set_ne hj] at e'
        exact ⟨a, e', rfl⟩
    obtain ⟨a', ha, ea'⟩ := key i' a ea
    obtain ⟨b', hb, eb'⟩ := key j' b eb
    rw [← ea', ← eb']
    exact h.2.2 i' j' a' b' ha hb hij
theorem Own.drew (h : Own w W l) : Own w W.drew l := ⟨h.1.drew, h.2.1, h.2.2⟩
theorem Own.drewN (h : Own w W l) (n : Nat) : Own w (W.drewN n) l := ⟨pw_below_drewN h.1 n, h.2.1, h.2.2⟩
/-- an append, or a make, that has written one row that is none of the blocks -/
theorem Own.grown {row : Option Nat} (h : Own w W l) (hg : W.grownBy W2 row) (hr : ∀ k, row = some k → w.heap.size ≤ k) (hne : ∀ (i : Nat) (b : Blk), l[i]? = some b → some b.1 ≠ row) : Own w W2 l :=
  ⟨h.1.grown hg h.size hr, fun i b e => ⟨(h.2.1 i b e).1, blk_grown (h.2.1 i b e).2 hg (hne i b e)⟩, h.2.2⟩
/-- a cell that was there before -/
theorem Own.old (h : Own w W l) {p : Addr} {v : Value} (hc : w.cell? p = some v) : W.cell? p = some v := (h.1.cell (World.block_lt_of_cell? w _ hc)).trans hc
end Go.Proofs.Ythedebalecnldaa.Mem
namespace Go.Proofs.Ythedebalecnldaa.Pt
open Go Go.RowKit Go.Proofs.YthedebalecnldaaW.PrintWords Go.Proofs.Ythedebalecnldaa.Mp
set_option linter.unusedVariables false
/-- elements of which each cell is told -/
def flat {α : Type} (sz : Nat) (enc : α → List Value) (hl : ∀ x, (enc x).length = sz) (h1 : ∀ x, ∀ u ∈ enc x, u.oneCell' = true) : Kd α where
  sz := sz
  E := []
  K := fun _ x cs => cs = enc x
  M := fun _ _ _ x cs => cs = enc x
  K_len := fun {_ x _} h => by rw [h]; exact hl x
  K_one := fun {_ x _} h => by rw [h]; exact h1 x
  K_below := fun _ h => h
  K_of_M := fun h => h
  M_mono := fun _ h => h
  M_bound := fun h => h
  M_move := fun _ h => h
  M_lower := fun _ h => h
/-- what a call may turn: blocks of F and new ones; then its own blocks are those of F', old or new -/
structure Turn (W W' : World) (F F' : Nat → Prop) : Prop where
  os : W'.os = W.os
  tape : W'.tape = W.tape
  output : W'.output = W.output
  size : W.heap.size ≤ W'.heap.size
  keep : ∀ k, k < W.heap.size → ¬ F k → W'.heap[k]? = W.heap[k]?
  foot : ∀ k, F' k → F k ∨ W.heap.size ≤ k
variable {base g n : Nat} {W W1 W2 : World} {F F' F'' : Nat → Prop}
theorem Turn.below (h : Below W.heap.size W W1) : Turn W W1 F F := ⟨h.os, h.tape, h.output, h.size, fun k hk _ => h.block k hk, fun _ h => .inl h⟩
theorem Turn.refl (W : World) (F : Nat → Prop) : Turn W W F F := ⟨rfl, rfl, rfl, Nat.le_refl _, fun _ _ _ => rfl, fun _ h => .inl h⟩
theorem Turn.drew (h : Turn W W1 F F') : Turn W W1.drew F F' := ⟨h.os, h.tape, h.output, h.size, h.keep, h.foot⟩
theorem Turn.trans (h : Turn W W1 F F') (k : Turn W1 W2 F' F'') : Turn W W2 F F'' := by
  refine ⟨k.os.trans h.os, k.tape.trans h.tape, k.output.trans h.output, Nat.le_trans h.size k.size, fun j hj hf => ?_, fun j hj => ?_⟩
  · refine (k.keep j (Nat.lt_of_lt_of_le hj h.size) (fun hf' => ?_)).trans (h.keep j hj hf)
    rcases h.foot j hf' with q | q
    · exact hf q
    · exact absurd hj (Nat.not_lt.2 q)
  · rcases k.foot j hj with q | q
    · exact h.foot j q
    · exact .inr (Nat.le_trans h.size q)
theorem Turn.step (h : Turn W W1 F F') (k : Below W1.heap.size W1 W2) : Turn W W2 F F' := h.trans (Turn.below k)
theorem Turn.grown {row : Option Nat} (h : W.grownBy W1 row) (hF : ∀ k, row = some k → F k) (hf : ∀ k, F' k → F k ∨ W.heap.size ≤ k) : Turn W W1 F F' :=
  ⟨h.os, h.tape, h.output, h.size, fun k hk hn => h.block k hk (fun e => hn (hF k e.symm)), hf⟩
/-- blocks below B are untouched -/
theorem Turn.to_below {B : Nat} (h : Turn W W1 F F') (hF : ∀ k, F k → B ≤ k) (hB : B ≤ W.heap.size) : Below B W W1 :=
  ⟨h.os, h.tape, h.output, h.size, fun k hk => h.keep k (Nat.lt_of_lt_of_le hk hB) (fun hf => absurd (hF k hf) (Nat.not_le.2 hk))⟩
theorem Turn.wide (h : Turn W W1 F F') {G G' : Nat → Prop} (h1 : ∀ k, F k → G k) (h2 : ∀ k, G' k → G k ∨ F' k) : Turn W W1 G G' :=
  ⟨h.os, h.tape, h.output, h.size, fun k hk hn => h.keep k hk (fun q => hn (h1 k q)), fun k hk => (h2 k hk).elim .inl (fun q => (h.foot k q).elim (fun r => .inl (h1 k r)) .inr)⟩
theorem turn_cell (W : World) (g i : Nat) (v : Value) : Turn W (W.setCell ⟨g, i, none⟩ v) (fun k => k = g) (fun k => k = g) :=
  ⟨rfl, rfl, rfl, by simp, fun k _ hn => Below.heap_setCell _ _ _ k hn, fun _ h => .inl h⟩
/-- a block that is newer is stored into -/
theorem Turn.set_new (h : Turn W W1 F F') {q i : Nat} {v : Value} (hq : W.heap.size ≤ q) : Turn W (W1.setCell ⟨q, i, none⟩ v) F F' :=
  ⟨h.os, h.tape, h.output, by simpa using h.size, fun k hk hn => (Below.heap_setCell _ _ _ k (fun (e : k = q) => by omega)).trans (h.keep k hk hn), h.foot⟩
/-- a part of memory: the blocks that it lies in, and what is told of them -/
structure Part where
  foot : Nat → Prop
  ok : World → Prop
  keep : ∀ (W W1 : World), ok W → (∀ k, k < W.heap.size → foot k → W1.heap[k]? = W.heap[k]?) → ok W1
  lt : ∀ (W : World), ok W → ∀ k, foot k → k < W.heap.size
def nil : Part := ⟨fun _ => False, fun _ => True, fun _ _ _ _ => trivial, fun _ _ _ h => h.elim⟩
def blk (g : Nat) (t : TypeId) (cs : Array Value) : Part := ⟨fun k => k = g, fun W => W.heap[g]? = some (.cells cs t (0, 0)), fun W W1 h hk => (hk g (blk_lt h) rfl).trans h, fun W h k e => e ▸ blk_lt h⟩
def imap (P : Program) (k : TypeId) (b : Nat) (f : Cont) : Part := ⟨fun j => j = b, fun W => IMap W P k b f, fun W W1 h hk => h.block (hk b h.lt rfl), fun W h j e => e ▸ h.lt⟩
section
variable {α : Type}
theorem only {kd : Kd α} {e base : Nat} {ok : Nat → Prop} {W : World} {v : Value} {xs : List α} (hM : ∀ {W : World} {b : Nat} {ok ok' : Nat → Prop} {x : α} {cs : List Value}, kd.M W b ok x cs → kd.M W b ok' x cs) (h : kd.R e W base ok v xs) : kd.R e W base (fun k => v.ownBlock = some k) v xs := ⟨fun k hk => hk, h.2.imp_ (fun _ _ hp => hM hp)⟩
/-- elements that lie in the row alone -/
def Flat (kd : Kd α) : Prop := ∀ {W : World} {b : Nat} {ok ok' : Nat → Prop} {x : α} {cs : List Value}, kd.M W b ok x cs → kd.M W b ok' x cs
theorem flat_flat {sz : Nat} {enc : α → List Value} {hl : ∀ x, (enc x).length = sz} {h1 : ∀ x, ∀ u ∈ enc x, u.oneCell' = true} : Flat (flat sz enc hl h1) := fun h => h
theorem flat_string : Flat Kd.string := fun h => h
theorem row_keep {kd : Kd α} (hf : Flat kd) {e base : Nat} {W W1 : World} {v : Value} {xs : List α} (h : kd.R e W base (fun _ => True) v xs) (hk : ∀ k, k < W.heap.size → v.ownBlock = some k → W1.heap[k]? = W.heap[k]?) : kd.R e W1 base (fun _ => True) v xs :=
  Kd.R_mono (Kd.R_step (only hf h) (fun k ho hlt => hk k hlt ho)) (fun _ _ => trivial)
theorem row_lt {kd : Kd α} {e base : Nat} {ok : Nat → Prop} {W : World} {v : Value} {xs : List α} (h : kd.R e W base ok v xs) (k : Nat) (hk : v.ownBlock = some k) : k < W.heap.size := by
  obtain ⟨inner, ho⟩ := Kd.R_own h
  exact own_lt ho k hk
/-- a row of one's own -/
def row (kd : Kd α) (hf : Flat kd) (e : TypeId) (base : Nat) (v : Value) (xs : List α) : Part :=
  ⟨fun k => v.ownBlock = some k, fun W => kd.R e W base (fun _ => True) v xs, fun W W1 h hk => row_keep hf h hk, fun W h k e => row_lt h k e⟩
end
/-- parts beside each other, none of them below base -/
def Parts (base : Nat) (W : World) (L : List Part) : Prop :=
  (∀ (i : Nat) (p : Part), L[i]? = some p → p.ok W ∧ ∀ k, p.foot k → base ≤ k) ∧ ∀ (i j : Nat) (p q : Part), L[i]? = some p → L[j]? = some q → i ≠ j → ∀ k, p.foot k → ¬ q.foot k
/-- the blocks of parts -/
def Foot (L : List Part) (k : Nat) : Prop := ∃ (i : Nat) (p : Part), L[i]? = some p ∧ p.foot k
variable {L L' : List Part} {p p' : Part}
theorem Parts.ok (h : Parts base W L) (i : Nat) (hp : L[i]? = some p) : p.ok W := (h.1 i p hp).1
theorem Parts.ge (h : Parts base W L) (k : Nat) (hk : Foot L k) : base ≤ k := by
  obtain ⟨i, p, hp, hf⟩ := hk
  exact (h.1 i p hp).2 k hf
theorem Parts.lt (h : Parts base W L) (k : Nat) (hk : Foot L k) : k < W.heap.size := by
  obtain ⟨i, p, hp, hf⟩ := hk
  exact p.lt W (h.1 i p hp).1 k hf
theorem Parts.keep (h : Parts base W L) (hk : ∀ k, k < W.heap.size → Foot L k → W1.heap[k]? = W.heap[k]?) : Parts base W1 L :=
  ⟨fun i p hp => ⟨p.keep W W1 (h.1 i p hp).1 (fun k h1 h2 => hk k h1 ⟨i, p, hp, h2⟩), (h.1 i p hp).2⟩, h.2⟩
theorem Parts.below (h : Parts base W L) (hB : Below W.heap.size W W1) : Parts base W1 L := h.keep (fun k hk _ => hB.block k hk)
theorem Parts.drew (h : Parts base W L) : Parts base W.drew L := h.keep (fun _ _ _ => rfl)
theorem Parts.apart_ {q : Part} (h : Parts base W L) (i j : Nat) (hp : L[i]? = some p) (hq : L[j]? = some q) (hij : i ≠ j) (k : Nat) (hk : p.foot k) : ¬ q.foot k := h.2 i j p q hp hq hij k hk
theorem foot_set {i : Nat} (hp : L[i]? = some p) {k : Nat} (h : Foot (L.set i p') k) : Foot L k ∨ p'.foot k := by
  obtain ⟨j, q, hq, hf⟩ := h
  rw [List.getElem?_set] at hq
  split at hq
  · split at hq
    · cases hq; exact .inr hf
    · cases hq
  · exact .inl ⟨j, q, hq, hf⟩
/-- one part is otherwise -/
theorem Parts.put (h : Parts base W L) (hb : base ≤ W.heap.size) (i : Nat) (hp : L[i]? = some p) (p' : Part) (hok : p'.ok W1) (hT : Turn W W1 p.foot p'.foot) : Parts base W1 (L.set i p') ∧ Turn W W1 (Foot L) (Foot (L.set i p')) := by
  have hil : i < L.length := (List.getElem?_eq_some_iff.1 hp).1
  have hget : ∀ j q, (L.set i p')[j]? = some q → (j = i ∧ q = p') ∨ (j ≠ i ∧ L[j]? = some q) := fun j q hq => by
    rw [List.getElem?_set] at hq
    by_cases e : i = j
    · rw [if_pos e, if_pos hil] at hq
      exact .inl ⟨e.symm, (Option.some.inj hq).symm⟩
    · rw [if_neg e] at hq
      exact .inr ⟨fun q => e q.symm, hq⟩
  have hnew : ∀ k, p'.foot k → base ≤ k := fun k hk => by
    rcases hT.foot k hk with q | q
    · exact (h.1 i p hp).2 k q
    · exact Nat.le_trans hb q
  have hoth : ∀ j q k, j ≠ i → L[j]? = some q → q.foot k → ¬ p'.foot k := fun j q k hj hq hk hk' => by
    rcases hT.foot k hk' with r | r
    · exact h.2 j i q p hq hp hj k hk r
    · exact absurd (q.lt W (h.1 j q hq).1 k hk) (Nat.not_lt.2 r)
  refine ⟨⟨fun j q hq => ?_, fun j l q r hq hr hjl k hk hk' => ?_⟩, hT.wide (fun k hk => ⟨i, p, hp, hk⟩) (fun k hk => foot_set hp hk)⟩
  · rcases hget j q hq with ⟨rfl, rfl⟩ | ⟨hj, hq⟩
    · exact ⟨hok, hnew⟩
    · refine ⟨q.keep W W1 (h.1 j q hq).1 (fun k h1 h2 => hT.keep k h1 (fun hf => h.2 j i q p hq hp hj k h2 hf)), (h.1 j q hq).2⟩
  · rcases hget j q hq with ⟨e1, e2⟩ | ⟨hj, hq2⟩
    · rcases hget l r hr with ⟨e3, _⟩ | ⟨hl, hr2⟩
      · exact hjl (e1.trans e3.symm)
      · rw [e2] at hk
        exact hoth l r k hl hr2 hk' hk
    · rcases hget l r hr with ⟨e3, e4⟩ | ⟨hl, hr2⟩
      · rw [e4] at hk'
        exact hoth j q k hj hq2 hk hk'
      · exact h.2 j l q r hq2 hr2 hjl k hk hk'
theorem Parts.cell {t : TypeId} {cs : Array Value} (h : Parts base W L) (i : Nat) (hp : L[i]? = some (blk g t cs)) (j : Nat) : W.cell? ⟨g, j, none⟩ = cs[j]? := blk_cell (h.ok i hp) j
theorem Parts.frozen {t : TypeId} {cs : Array Value} (h : Parts base W L) (i : Nat) (hp : L[i]? = some (blk g t cs)) (j : Nat) : W.frozen? ⟨g, j, none⟩ = false := blk_frozen (h.ok i hp) j
/-- a cell is stored -/
theorem Parts.set {t : TypeId} {cs : Array Value} (h : Parts base W L) (hb : base ≤ W.heap.size) (i : Nat) (hp : L[i]? = some (blk g t cs)) (j : Nat) (v : Value) (cs' : Array Value) (e : cs.setIfInBounds j v = cs') :
    Parts base (W.setCell ⟨g, j, none⟩ v) (L.set i (blk g t cs')) ∧ Turn W (W.setCell ⟨g, j, none⟩ v) (Foot L) (Foot (L.set i (blk g t cs'))) :=
  h.put hb i hp (blk g t cs') (blk_put (h.ok i hp) j v e) (turn_cell W g j v)
/-- a row is otherwise -/
theorem Parts.put_row {α : Type} {kd : Kd α} {hf : Flat kd} {e b : Nat} {v v1 : Value} {xs ys : List α} (h : Parts base W L) (hb : base ≤ W.heap.size) (i : Nat) (hp : L[i]? = some (row kd hf e b v xs)) (hr : kd.R e W1 b (fun _ => True) v1 ys) (hg : W.grownBy W1 v.ownBlock) (hat : v1.ownBlock = v.ownBlock ∨ ∃ b, v1.ownBlock = some b ∧ W.heap.size ≤ b) :
    Parts base W1 (L.set i (row kd hf e b v1 ys)) ∧ Turn W W1 (Foot L) (Foot (L.set i (row kd hf e b v1 ys))) :=
  h.put hb i hp (row kd hf e b v1 ys) hr (Turn.grown hg (fun k hk => hk) (fun k hk => by
    rcases hat with q | ⟨c, q, hc⟩
    · exact .inl (show v.ownBlock = some k from q ▸ (show v1.ownBlock = some k from hk))
    · have hk : v1.ownBlock = some k := hk
      rw [q] at hk
      cases hk
      exact .inr hc))
/-- parts made anew beside others -/
theorem Parts.add (h : Parts base W L) (hB : Below W.heap.size W W1) (h' : Parts W.heap.size W1 L') (hb : base ≤ W.heap.size) : Parts base W1 (L' ++ L) := by
  have h1 := h.below hB
  have hd : ∀ k, Foot L k → ¬ Foot L' k := fun k q r => absurd (h.lt k q) (Nat.not_lt.2 (h'.ge k r))
  have hget : ∀ i p, (L' ++ L)[i]? = some p → (i < L'.length ∧ L'[i]? = some p) ∨ (L'.length ≤ i ∧ L[i - L'.length]? = some p) := fun i p hp => by
    rw [List.getElem?_append] at hp
    split at hp
    · exact .inl ⟨by assumption, hp⟩
    · exact .inr ⟨by omega, hp⟩
  refine ⟨fun i p hp => ?_, fun i j p q hp hq hij k hk hk' => ?_⟩
  · rcases hget i p hp with ⟨_, e⟩ | ⟨_, e⟩
    · exact ⟨h'.ok _ e, fun k hk => Nat.le_trans hb ((h'.1 _ _ e).2 k hk)⟩
    · exact h1.1 _ _ e
  · rcases hget i p hp with ⟨hi, e⟩ | ⟨hi, e⟩ <;> rcases hget j q hq with ⟨hj, e'⟩ | ⟨hj, e'⟩
    · exact h'.2 _ _ _ _ e e' hij k hk hk'
    · exact hd k ⟨_, _, e', hk'⟩ ⟨_, _, e, hk⟩
    · exact hd k ⟨_, _, e, hk⟩ ⟨_, _, e', hk'⟩
    · exact h1.2 _ _ _ _ e e' (by omega) k hk hk'
/-- a block that is none of theirs is stored into -/
theorem Parts.set_other (h : Parts base W L) {q i : Nat} {v : Value} (hq : ¬ Foot L q) : Parts base (W.setCell ⟨q, i, none⟩ v) L := h.keep (fun k _ hk => Below.heap_setCell _ _ _ k (fun (e : k = q) => hq (e ▸ hk)))
/-- a block that is none of theirs stays none -/
theorem Turn.not_foot {L' : List Part} (hT : Turn W W1 (Foot L) (Foot L')) {q : Nat} (h : ¬ Foot L q) (hq : q < W.heap.size) : ¬ Foot L' q := fun k => (hT.foot q k).elim h (fun r => absurd hq (Nat.not_lt.2 r))
end Go.Proofs.Ythedebalecnldaa.Pt
namespace Go.Proofs
open Go
def Try.zeroCells34 : Array Value := (List.replicate 72 (Value.int .u32 0)).toArray
set_option maxRecDepth 100000 in
theorem Try.zeroValue34 (w : World) : (zeroValue 34).run Try.prog w = .ok (.agg Try.zeroCells34) w := by kernel_rfl
theorem Try.zeroCells34_size : Try.zeroCells34.size = 72 := by kernel_rfl
theorem Try.zeroCells34_ne : Try.zeroCells34 ≠ #[] := fun h => by
  have := congrArg Array.size h
  rw [Try.zeroCells34_size] at this
  cases this
end Go.Proofs

