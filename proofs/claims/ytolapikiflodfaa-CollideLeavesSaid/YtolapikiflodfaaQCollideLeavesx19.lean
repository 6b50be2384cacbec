import Derived.Test.YtolapikiflodfaaQCollideLeavesx0
import Derived.Test.YtolapikiflodfaaQCollideLeavesx1
import Derived.Test.YtolapikiflodfaaQCollideLeavesx6
import Derived.Test.YtolapikiflodfaaQCollideLeavesx7
import Derived.Test.YtolapikiflodfaaQCollideLeavesx13
import Derived.Test.YtolapikiflodfaaQCollideLeavesx17
import Derived.Test.YtolapikiflodfaaQCollideLeavesx18
namespace Go.Proofs.Ytolapikiflodfaa.PCollideLeaves
open Go.RowKit Go.Proofs.YtolapikiflodfaaW.PrintWords Go.Proofs.YtolapikiflodfaaW.PrintLast Go.Proofs.YtolapikiflodfaaW.PrintMore
attribute [local go_sem] max2_int min2_int max_two min_two max_three min_three max_four min_four   -- for this text's walks alone
set_option linter.unusedVariables false
set_option linter.unusedSimpArgs false

attribute [local go_sem high] eqA50
/-! ### annalistlaw08_CollideLeaves: function 8 -/
mutual
def annalistlaw08_CollideLeaves.j0 : Nat → Int → Bool → ByteArray → Int → Int → List ByteArray → ByteArray → Int → Int → List ByteArray → Option (Bool)
  | 0, _, _, _, _, _, _, _, _, _, _ => none
  | k + 1, x0, x25, x197000, x197001, x197002, x197003, x198000, x198001, x198002, x198003 => if x25 = true then ((annalistlaw08_awake.f k).bind fun t201 => (some t201)) else ((annalistref08_Root.f k x0 x197000 x197001 x197002 x197003).bind fun bt202 => ((annalistref08_Root.f k x0 x198000 x198001 x198002 x198003).bind fun bt204 => ((annalistlaw08_leaves.f k x0 bt202.1 x197000 x197001 x197002 x197003 x198000 x198001 x198002 x198003).bind fun bt206 => (if bt202.2 = true then (if bt204.2 = true then (if bt202.1.toList = bt204.1.toList then (if x197001 = x198001 then (if x197002 = x198002 then (annalistlaw08_CollideLeaves.j1 k x0 bt206.2.2 (x197000.toList != x198000.toList) bt206.1 bt206.2.1) else (annalistlaw08_CollideLeaves.j1 k x0 bt206.2.2 false bt206.1 bt206.2.1)) else (annalistlaw08_CollideLeaves.j1 k x0 bt206.2.2 false bt206.1 bt206.2.1)) else (annalistlaw08_CollideLeaves.j1 k x0 bt206.2.2 false bt206.1 bt206.2.1)) else (annalistlaw08_CollideLeaves.j1 k x0 bt206.2.2 false bt206.1 bt206.2.1)) else (annalistlaw08_CollideLeaves.j1 k x0 bt206.2.2 false bt206.1 bt206.2.1)))))
def annalistlaw08_CollideLeaves.j1 : Nat → Int → Bool → Bool → ByteArray → ByteArray → Option (Bool)
  | 0, _, _, _, _, _ => none
  | k + 1, x0, x12, x13, x210000, x210001 => if (x12 != x13) = true then (some false) else (if x12 = true then ((annalistref08_Collides.f k x0 x210000 x210001).bind fun t210 => (some t210)) else (some (x210000.toList == ([] : List UInt8) && (x210001.toList == ([] : List UInt8)))))
end
def annalistlaw08_CollideLeaves.f (k : Nat) (a0 : Int) (a1_0 : ByteArray) (a1_1 : Int) (a1_2 : Int) (l1_3 : List ByteArray) (a2_0 : ByteArray) (a2_1 : Int) (a2_2 : Int) (l2_3 : List ByteArray) : Option (Bool) := (annalistlaw08_awake.f k).bind fun t198 => (if t198 = true then ((annalistref08_Few.f k a1_0 a1_1 a1_2 l1_3).bind fun t199 => (if t199 = true then ((annalistref08_Few.f k a2_0 a2_1 a2_2 l2_3).bind fun t200 => (annalistlaw08_CollideLeaves.j0 k a0 (!t200) a1_0 a1_1 a1_2 l1_3 a2_0 a2_1 a2_2 l2_3)) else (annalistlaw08_CollideLeaves.j0 k a0 true a1_0 a1_1 a1_2 l1_3 a2_0 a2_1 a2_2 l2_3))) else (annalistlaw08_CollideLeaves.j0 k a0 true a1_0 a1_1 a1_2 l1_3 a2_0 a2_1 a2_2 l2_3))
theorem annalistlaw08_CollideLeaves.mono_l : ∀ k, (∀ y0 y1 y2 y3 y4 y5 y6 y7 y8 y9, LeO (annalistlaw08_CollideLeaves.j0 k y0 y1 y2 y3 y4 y5 y6 y7 y8 y9) (annalistlaw08_CollideLeaves.j0 (k + 1) y0 y1 y2 y3 y4 y5 y6 y7 y8 y9)) ∧ (∀ y0 y1 y2 y3 y4, LeO (annalistlaw08_CollideLeaves.j1 k y0 y1 y2 y3 y4) (annalistlaw08_CollideLeaves.j1 (k + 1) y0 y1 y2 y3 y4))
  | 0 => ⟨fun _ _ _ _ _ _ _ _ _ _ r h => by simp [annalistlaw08_CollideLeaves.j0] at h, fun _ _ _ _ _ r h => by simp [annalistlaw08_CollideLeaves.j1] at h⟩
  | k + 1 => by
    obtain ⟨ih0, ih1⟩ := annalistlaw08_CollideLeaves.mono_l k
    refine ⟨?_, ?_⟩
    · intro y0 y1 y2 y3 y4 y5 y6 y7 y8 y9
      unfold annalistlaw08_CollideLeaves.j0
      repeat' first
      | (with_reducible exact ih0 _ _ _ _ _ _ _ _ _ _)
      | (with_reducible exact ih1 _ _ _ _ _)
      | (with_reducible exact annalistlaw08_awake.mono _)
      | (with_reducible exact annalistlaw08_leaves.mono _ _ _ _ _ _ _ _ _ _ _)
      | (with_reducible exact annalistref08_Collides.mono _ _ _ _)
      | (with_reducible exact annalistref08_Few.mono _ _ _ _ _)
      | (with_reducible exact annalistref08_Root.mono _ _ _ _ _ _)
      | (with_reducible exact LeO.refl _)
      | (with_reducible exact LeO.none _)
      | (with_reducible refine LeO.ite ?_ ?_)
      | (with_reducible refine LeO.bind ?_ (fun _ => ?_))
      | exact ih0 _ _ _ _ _ _ _ _ _ _
      | exact ih1 _ _ _ _ _
      | exact annalistlaw08_awake.mono _
      | exact annalistlaw08_leaves.mono _ _ _ _ _ _ _ _ _ _ _
      | exact annalistref08_Collides.mono _ _ _ _
      | exact annalistref08_Few.mono _ _ _ _ _
      | exact annalistref08_Root.mono _ _ _ _ _ _
      | exact LeO.none _
      | refine LeO.ite ?_ ?_
      | refine LeO.bind ?_ (fun _ => ?_)
    · intro y0 y1 y2 y3 y4
      unfold annalistlaw08_CollideLeaves.j1
      repeat' first
      | (with_reducible exact ih0 _ _ _ _ _ _ _ _ _ _)
      | (with_reducible exact ih1 _ _ _ _ _)
      | (with_reducible exact annalistlaw08_awake.mono _)
      | (with_reducible exact annalistlaw08_leaves.mono _ _ _ _ _ _ _ _ _ _ _)
      | (with_reducible exact annalistref08_Collides.mono _ _ _ _)
      | (with_reducible exact annalistref08_Few.mono _ _ _ _ _)
      | (with_reducible exact annalistref08_Root.mono _ _ _ _ _ _)
      | (with_reducible exact LeO.refl _)
      | (with_reducible exact LeO.none _)
      | (with_reducible refine LeO.ite ?_ ?_)
      | (with_reducible refine LeO.bind ?_ (fun _ => ?_))
      | exact ih0 _ _ _ _ _ _ _ _ _ _
      | exact ih1 _ _ _ _ _
      | exact annalistlaw08_awake.mono _
      | exact annalistlaw08_leaves.mono _ _ _ _ _ _ _ _ _ _ _
      | exact annalistref08_Collides.mono _ _ _ _
      | exact annalistref08_Few.mono _ _ _ _ _
      | exact annalistref08_Root.mono _ _ _ _ _ _
      | exact LeO.none _
      | refine LeO.ite ?_ ?_
      | refine LeO.bind ?_ (fun _ => ?_)
theorem annalistlaw08_CollideLeaves.mono : ∀ a0 a1 a2 a3 a4 a5 a6 a7 a8 k, LeO (annalistlaw08_CollideLeaves.f k a0 a1 a2 a3 a4 a5 a6 a7 a8) (annalistlaw08_CollideLeaves.f (k + 1) a0 a1 a2 a3 a4 a5 a6 a7 a8) := by
  intro a0 a1 a2 a3 a4 a5 a6 a7 a8 k
  obtain ⟨ih0, ih1⟩ := annalistlaw08_CollideLeaves.mono_l k
  unfold annalistlaw08_CollideLeaves.f
  repeat' first
      | (with_reducible exact ih0 _ _ _ _ _ _ _ _ _ _)
      | (with_reducible exact ih1 _ _ _ _ _)
      | (with_reducible exact annalistlaw08_awake.mono _)
      | (with_reducible exact annalistlaw08_leaves.mono _ _ _ _ _ _ _ _ _ _ _)
      | (with_reducible exact annalistref08_Collides.mono _ _ _ _)
      | (with_reducible exact annalistref08_Few.mono _ _ _ _ _)
      | (with_reducible exact annalistref08_Root.mono _ _ _ _ _ _)
      | (with_reducible exact LeO.refl _)
      | (with_reducible exact LeO.none _)
      | (with_reducible refine LeO.ite ?_ ?_)
      | (with_reducible refine LeO.bind ?_ (fun _ => ?_))
      | exact ih0 _ _ _ _ _ _ _ _ _ _
      | exact ih1 _ _ _ _ _
      | exact annalistlaw08_awake.mono _
      | exact annalistlaw08_leaves.mono _ _ _ _ _ _ _ _ _ _ _
      | exact annalistref08_Collides.mono _ _ _ _
      | exact annalistref08_Few.mono _ _ _ _ _
      | exact annalistref08_Root.mono _ _ _ _ _ _
      | exact LeO.none _
      | refine LeO.ite ?_ ?_
      | refine LeO.bind ?_ (fun _ => ?_)
set_option maxHeartbeats 8000000 in
set_option maxRecDepth 100000 in
theorem annalistlaw08_CollideLeaves.calls (k : Nat) (a0 : Int) (a1_0 : ByteArray) (a1_1 : Int) (a1_2 : Int) (A1_3 : Option Addr) (c1_3 : Nat) (l1_3 : List ByteArray) (a2_0 : ByteArray) (a2_1 : Int) (a2_2 : Int) (A2_3 : Option Addr) (c2_3 : Nat) (l2_3 : List ByteArray) (r : Bool) (w : World) (hr1_3 : Kd.C Kd.string w A1_3 l1_3.length l1_3) (hc1_3 : l1_3.length ≤ c1_3) (hr2_3 : Kd.C Kd.string w A2_3 l2_3.length l2_3) (hc2_3 : l2_3.length ≤ c2_3) (h : annalistlaw08_CollideLeaves.f k a0 a1_0 a1_1 a1_2 l1_3 a2_0 a2_1 a2_2 l2_3 = some r) :
    Calls Try.prog 8 #[.int .u8 a0, .agg #[.string a1_0, .int .i64 a1_1, .int .i64 a1_2, .slice A1_3 l1_3.length c1_3], .agg #[.string a2_0, .int .i64 a2_1, .int .i64 a2_2, .slice A2_3 l2_3.length c2_3]] w fun e w' => e = .returned (.bool r) ∧ Below w.heap.size w w' := by
  have hu32 := Try.underlying32
  have hu50 := Try.underlying50
  have HR1_3 := Aside0.mk hr1_3
  have HC1_3 := Aside0.mk hc1_3
  clear hr1_3 hc1_3
  have HR2_3 := Aside0.mk hr2_3
  have HC2_3 := Aside0.mk hc2_3
  clear hr2_3 hc2_3
  have HB := Aside0.mk (Below.refl w.heap.size w)
  have H : ((annalistlaw08_awake.f k).bind fun t198 => (if t198 = true then ((annalistref08_Few.f k a1_0 a1_1 a1_2 l1_3).bind fun t199 => (if t199 = true then ((annalistref08_Few.f k a2_0 a2_1 a2_2 l2_3).bind fun t200 => (annalistlaw08_CollideLeaves.j0 k a0 (!t200) a1_0 a1_1 a1_2 l1_3 a2_0 a2_1 a2_2 l2_3)) else (annalistlaw08_CollideLeaves.j0 k a0 true a1_0 a1_1 a1_2 l1_3 a2_0 a2_1 a2_2 l2_3))) else (annalistlaw08_CollideLeaves.j0 k a0 true a1_0 a1_1 a1_2 l1_3 a2_0 a2_1 a2_2 l2_3))) = some r := h
  clear h
  have HC4 := Aside0.mk H
  clear H
  go_enter Try.func8, Try.ntmps8
  go_upto_region 1 with (first | ((with_reducible refine gate_dst (N := 4) rfl ?_); refine box_event ?hg (N := 4) ?hd (cs := #[.string a1_0, .int .i64 a1_1, .int .i64 a1_2, .slice A1_3 l1_3.length c1_3]) (t := 32) ?hr ?_; (case hd => rfl); (case hg => rfl); (case hr => first | (go_simp; done) | (go_simp; rfl)); intro gb196 hg w5 hbox hb; have n0_ := Aside0.mk (below_step (by repeat (first | (with_reducible first | exact HB.out | apply below_alloc | apply pw_below_drewN | apply below_drew1) | exact HB.out)) hb); have n1_ := Aside0.mk (hbox); have n2_ := Aside0.mk ((by rw [hg]; exact (below_size (by repeat (first | (with_reducible first | exact HB.out | apply below_alloc | apply pw_below_drewN | apply below_drew1) | exact HB.out))) : w.heap.size ≤ gb196)); have n3_ := Aside0.mk ((by rw [hg]; exact (below_size (by repeat (first | (with_reducible first | exact HB.out | apply below_alloc | apply pw_below_drewN | apply below_drew1) | exact HB.out))) : w.heap.size ≤ gb196)); clear HB; have HB := n0_; have BK196 := n1_; have GW196 := n2_; have GE196 := n3_; clear n0_ n1_ n2_ n3_; clear hb hbox hg) | ((with_reducible refine gate_dst (N := 5) rfl ?_); refine box_event ?hg (N := 5) ?hd (cs := #[.string a2_0, .int .i64 a2_1, .int .i64 a2_2, .slice A2_3 l2_3.length c2_3]) (t := 32) ?hr ?_; (case hd => rfl); (case hg => rfl); (case hr => first | (go_simp; done) | (go_simp; rfl)); intro gb197 hg w6 hbox hb; have n0_ := Aside0.mk (blk_below (g := gb196) (o := .cells #[.string a1_0, .int .i64 a1_1, .int .i64 a1_2, .slice A1_3 l1_3.length c1_3] 32 (0, 0)) (by (with_reducible repeat (first | refine blk_drewN ?_ _ | refine blk_drew ?_ | refine blk_alloc ?_ _)); exact BK196.out) hb); have n1_ := Aside0.mk (below_step (by repeat (first | (with_reducible first | exact HB.out | apply below_alloc | apply pw_below_drewN | apply below_drew1 | refine below_set ?_ GE196.out) | exact HB.out)) hb); have n2_ := Aside0.mk (hbox); have n3_ := Aside0.mk ((by rw [hg]; exact (below_size (by repeat (first | (with_reducible first | exact HB.out | apply below_alloc | apply pw_below_drewN | apply below_drew1 | refine below_set ?_ GE196.out) | exact HB.out))) : w.heap.size ≤ gb197)); have n4_ := Aside0.mk ((by rw [hg]; exact (below_size (by repeat (first | (with_reducible first | exact HB.out | apply below_alloc | apply pw_below_drewN | apply below_drew1 | refine below_set ?_ GE196.out) | exact HB.out))) : w.heap.size ≤ gb197)); have n5_ := Aside0.mk ((by rw [hg]; exact Nat.ne_of_lt (blk_lt (g := gb196) (o := .cells #[.string a1_0, .int .i64 a1_1, .int .i64 a1_2, .slice A1_3 l1_3.length c1_3] 32 (0, 0)) (by (with_reducible repeat (first | refine blk_drewN ?_ _ | refine blk_drew ?_ | refine blk_alloc ?_ _)); exact BK196.out)) : gb196 ≠ gb197)); have n6_ := Aside0.mk ((by rw [hg]; exact Nat.ne_of_gt (blk_lt (g := gb196) (o := .cells #[.string a1_0, .int .i64 a1_1, .int .i64 a1_2, .slice A1_3 l1_3.length c1_3] 32 (0, 0)) (by (with_reducible repeat (first | refine blk_drewN ?_ _ | refine blk_drew ?_ | refine blk_alloc ?_ _)); exact BK196.out)) : gb197 ≠ gb196)); clear BK196; clear HB; have BK196 := n0_; have HB := n1_; have BK197 := n2_; have GW197 := n3_; have GE197 := n4_; have NB196_197 := n5_; have NB197_196 := n6_; clear n0_ n1_ n2_ n3_ n4_ n5_ n6_; clear hb hbox hg))
  (try simp only [Act.put, List.setIfInBounds_toArray, List.set_cons_zero, List.set_cons_succ])
  go_cut [25] (fun v25 wc => ∃ (kq : Nat) (x25_3 : Bool), v25 = .bool x25_3 ∧ Aside0 (annalistlaw08_CollideLeaves.j0 kq a0 x25_3 a1_0 a1_1 a1_2 l1_3 a2_0 a2_1 a2_2 l2_3 = some r) ∧ Aside0 (kq ≤ k) ∧ Aside0 (wc.heap[gb196]? = some (.cells #[.string a1_0, .int .i64 a1_1, .int .i64 a1_2, (.slice A1_3 l1_3.length c1_3)] 32 (0, 0))) ∧ Aside0 (wc.heap[gb197]? = some (.cells #[.string a2_0, .int .i64 a2_1, .int .i64 a2_2, (.slice A2_3 l2_3.length c2_3)] 32 (0, 0))) ∧ Aside0 (Below w.heap.size w wc))
  case first =>
    have H := HC4.out
    clear HC4
    replace H := Option.bind_eq_some_iff.mp H
    obtain ⟨t198, A70, H⟩ := H
    replace H : (if t198 = true then ((annalistref08_Few.f k a1_0 a1_1 a1_2 l1_3).bind fun t199 => (if t199 = true then ((annalistref08_Few.f k a2_0 a2_1 a2_2 l2_3).bind fun t200 => (annalistlaw08_CollideLeaves.j0 k a0 (!t200) a1_0 a1_1 a1_2 l1_3 a2_0 a2_1 a2_2 l2_3)) else (annalistlaw08_CollideLeaves.j0 k a0 true a1_0 a1_1 a1_2 l1_3 a2_0 a2_1 a2_2 l2_3))) else (annalistlaw08_CollideLeaves.j0 k a0 true a1_0 a1_1 a1_2 l1_3 a2_0 a2_1 a2_2 l2_3)) = some r := H
    have A7 := Aside0.mk A70
    clear A70
    by_cases c8 : t198 = true
    · subst c8
      have H1 : ((annalistref08_Few.f k a1_0 a1_1 a1_2 l1_3).bind fun t199 => (if t199 = true then ((annalistref08_Few.f k a2_0 a2_1 a2_2 l2_3).bind fun t200 => (annalistlaw08_CollideLeaves.j0 k a0 (!t200) a1_0 a1_1 a1_2 l1_3 a2_0 a2_1 a2_2 l2_3)) else (annalistlaw08_CollideLeaves.j0 k a0 true a1_0 a1_1 a1_2 l1_3 a2_0 a2_1 a2_2 l2_3))) = some r := by rw [if_pos rfl] at H; exact H
      clear H
      have H := H1
      clear H1
      replace H := Option.bind_eq_some_iff.mp H
      obtain ⟨t199, A90, H⟩ := H
      replace H : (if t199 = true then ((annalistref08_Few.f k a2_0 a2_1 a2_2 l2_3).bind fun t200 => (annalistlaw08_CollideLeaves.j0 k a0 (!t200) a1_0 a1_1 a1_2 l1_3 a2_0 a2_1 a2_2 l2_3)) else (annalistlaw08_CollideLeaves.j0 k a0 true a1_0 a1_1 a1_2 l1_3 a2_0 a2_1 a2_2 l2_3)) = some r := H
      have A9 := Aside0.mk A90
      clear A90
      by_cases c10 : t199 = true
      · subst c10
        have H1 : ((annalistref08_Few.f k a2_0 a2_1 a2_2 l2_3).bind fun t200 => (annalistlaw08_CollideLeaves.j0 k a0 (!t200) a1_0 a1_1 a1_2 l1_3 a2_0 a2_1 a2_2 l2_3)) = some r := by rw [if_pos rfl] at H; exact H
        clear H
        have H := H1
        clear H1
        replace H := Option.bind_eq_some_iff.mp H
        obtain ⟨t200, A110, H⟩ := H
        replace H : (annalistlaw08_CollideLeaves.j0 k a0 (!t200) a1_0 a1_1 a1_2 l1_3 a2_0 a2_1 a2_2 l2_3) = some r := H
        have A11 := Aside0.mk A110
        clear A110
        have H' := Aside0.mk H
        clear H
        go_wp2_with (first | ((with_reducible refine gate_callee (f := 19) rfl ?_); refine goesL_ (some 14) rfl rfl Try.func19 (by kernel_rfl) rfl #[] rfl (by (try simp only [List.map_toArray, List.map_cons, List.map_nil]); first | done | rfl | (simp only [List.length_drop, List.length_take]; rfl)) ?_; (with_reducible refine (annalistlaw08_awake.calls k  true _ A7.out).mono ?_); rintro e w12 ⟨rfl, hb⟩; refine ⟨_, rfl, ?_⟩; have n0_ := Aside0.mk (blk_below (g := gb196) (o := .cells #[.string a1_0, .int .i64 a1_1, .int .i64 a1_2, .slice A1_3 l1_3.length c1_3] 32 (0, 0)) (by (with_reducible repeat (first | refine blk_drewN ?_ _ | refine blk_drew ?_ | refine blk_alloc ?_ _)); exact BK196.out) hb); have n1_ := Aside0.mk (blk_below (g := gb197) (o := .cells #[.string a2_0, .int .i64 a2_1, .int .i64 a2_2, .slice A2_3 l2_3.length c2_3] 32 (0, 0)) (by (with_reducible repeat (first | refine blk_drewN ?_ _ | refine blk_drew ?_ | refine blk_alloc ?_ _)); exact BK197.out) hb); have n2_ := Aside0.mk (below_step (by repeat (first | (with_reducible first | exact HB.out | apply below_alloc | apply pw_below_drewN | apply below_drew1 | refine below_set ?_ GE196.out | refine below_set ?_ GE197.out) | exact HB.out)) hb); clear BK196; clear BK197; clear HB; have BK196 := n0_; have BK197 := n1_; have HB := n2_; clear n0_ n1_ n2_; (try clear hb); (try clear hb2); (try clear hk); (try clear hi); have hnb13 := NB196_197.out; have hnc13 := NB197_196.out; have hcz14_0 : w12.cell? ⟨gb196, 0, none⟩ = some (.string a1_0) := (blk_cell BK196.out 0).trans rfl; have hcz14_1 : w12.cell? ⟨gb196, 1, none⟩ = some (.int .i64 a1_1) := (blk_cell BK196.out 1).trans rfl; have hcz14_2 : w12.cell? ⟨gb196, 2, none⟩ = some (.int .i64 a1_2) := (blk_cell BK196.out 2).trans rfl; have hcz14_3 : w12.cell? ⟨gb196, 3, none⟩ = some (.slice A1_3 l1_3.length c1_3) := (blk_cell BK196.out 3).trans rfl; have hfz14_0 := blk_frozen BK196.out 0; have hfz14_1 := blk_frozen BK196.out 1; have hfz14_2 := blk_frozen BK196.out 2; have hfz14_3 := blk_frozen BK196.out 3) | (go_at_call 20; (with_reducible refine (annalistref08_Few.calls k a1_0 a1_1 a1_2 _ _ l1_3 true _ ?side1 ?side2 A9.out).mono ?_); (case side1 => repeat (first | exact (Kd.C_below HR1_3.out HB.out) | (with_reducible refine Kd.C_alloc ?_ _) | (with_reducible refine Kd.C_drewN ?_ _) | (with_reducible refine Kd.C_drew ?_))); (case side2 => exact HC1_3.out); rintro e w15 ⟨rfl, hb⟩; have n0_ := Aside0.mk (blk_below (g := gb196) (o := .cells #[.string a1_0, .int .i64 a1_1, .int .i64 a1_2, .slice A1_3 l1_3.length c1_3] 32 (0, 0)) (by (with_reducible repeat (first | refine blk_drewN ?_ _ | refine blk_drew ?_ | refine blk_alloc ?_ _)); exact BK196.out) hb); have n1_ := Aside0.mk (blk_below (g := gb197) (o := .cells #[.string a2_0, .int .i64 a2_1, .int .i64 a2_2, .slice A2_3 l2_3.length c2_3] 32 (0, 0)) (by (with_reducible repeat (first | refine blk_drewN ?_ _ | refine blk_drew ?_ | refine blk_alloc ?_ _)); exact BK197.out) hb); have n2_ := Aside0.mk (below_step (by repeat (first | (with_reducible first | exact HB.out | apply below_alloc | apply pw_below_drewN | apply below_drew1 | refine below_set ?_ GE196.out | refine below_set ?_ GE197.out) | exact HB.out)) hb); clear BK196; clear BK197; clear HB; have BK196 := n0_; have BK197 := n1_; have HB := n2_; clear n0_ n1_ n2_; (try clear hb); (try clear hb2); (try clear hk); (try clear hi); have hcz16_0 : w15.cell? ⟨gb197, 0, none⟩ = some (.string a2_0) := (blk_cell BK197.out 0).trans rfl; have hcz16_1 : w15.cell? ⟨gb197, 1, none⟩ = some (.int .i64 a2_1) := (blk_cell BK197.out 1).trans rfl; have hcz16_2 : w15.cell? ⟨gb197, 2, none⟩ = some (.int .i64 a2_2) := (blk_cell BK197.out 2).trans rfl; have hcz16_3 : w15.cell? ⟨gb197, 3, none⟩ = some (.slice A2_3 l2_3.length c2_3) := (blk_cell BK197.out 3).trans rfl; have hfz16_0 := blk_frozen BK197.out 0; have hfz16_1 := blk_frozen BK197.out 1; have hfz16_2 := blk_frozen BK197.out 2; have hfz16_3 := blk_frozen BK197.out 3) | (go_at_call 20; (with_reducible refine (annalistref08_Few.calls k a2_0 a2_1 a2_2 _ _ l2_3 t200 _ ?side1 ?side2 A11.out).mono ?_); (case side1 => repeat (first | exact (Kd.C_below HR2_3.out HB.out) | (with_reducible refine Kd.C_alloc ?_ _) | (with_reducible refine Kd.C_drewN ?_ _) | (with_reducible refine Kd.C_drew ?_))); (case side2 => exact HC2_3.out); rintro e w17 ⟨rfl, hb⟩; have n0_ := Aside0.mk (blk_below (g := gb196) (o := .cells #[.string a1_0, .int .i64 a1_1, .int .i64 a1_2, .slice A1_3 l1_3.length c1_3] 32 (0, 0)) (by (with_reducible repeat (first | refine blk_drewN ?_ _ | refine blk_drew ?_ | refine blk_alloc ?_ _)); exact BK196.out) hb); have n1_ := Aside0.mk (blk_below (g := gb197) (o := .cells #[.string a2_0, .int .i64 a2_1, .int .i64 a2_2, .slice A2_3 l2_3.length c2_3] 32 (0, 0)) (by (with_reducible repeat (first | refine blk_drewN ?_ _ | refine blk_drew ?_ | refine blk_alloc ?_ _)); exact BK197.out) hb); have n2_ := Aside0.mk (below_step (by repeat (first | (with_reducible first | exact HB.out | apply below_alloc | apply pw_below_drewN | apply below_drew1 | refine below_set ?_ GE196.out | refine below_set ?_ GE197.out) | exact HB.out)) hb); clear BK196; clear BK197; clear HB; have BK196 := n0_; have BK197 := n1_; have HB := n2_; clear n0_ n1_ n2_; (try clear hb); (try clear hb2); (try clear hk); (try clear hi)))
        go_meet
        case rel => exact ⟨_, (!t200), (by first | rfl | (simp; done) | (simp [*]; done)), H', ⟨by first | omega | exact Nat.le_refl _⟩, ⟨by (with_reducible repeat (first | refine blk_drewN ?_ _ | refine blk_drew ?_ | refine blk_alloc ?_ _)); exact BK196.out⟩, ⟨by (with_reducible repeat (first | refine blk_drewN ?_ _ | refine blk_drew ?_ | refine blk_alloc ?_ _)); exact BK197.out⟩, ⟨by repeat (first | (with_reducible first | exact HB.out | apply below_alloc | apply pw_below_drewN | apply below_drew1 | refine below_set ?_ GE196.out | refine below_set ?_ GE197.out) | exact HB.out)⟩⟩
      · replace c10 := Bool.eq_false_iff.mpr c10
        subst c10
        have H1 : (annalistlaw08_CollideLeaves.j0 k a0 true a1_0 a1_1 a1_2 l1_3 a2_0 a2_1 a2_2 l2_3) = some r := by rw [if_neg (show ¬ (false = true) by decide)] at H; exact H
        clear H
        have H := H1
        clear H1
        have H' := Aside0.mk H
        clear H
        go_wp2_with (first | ((with_reducible refine gate_callee (f := 19) rfl ?_); refine goesL_ (some 14) rfl rfl Try.func19 (by kernel_rfl) rfl #[] rfl (by (try simp only [List.map_toArray, List.map_cons, List.map_nil]); first | done | rfl | (simp only [List.length_drop, List.length_take]; rfl)) ?_; (with_reducible refine (annalistlaw08_awake.calls k  true _ A7.out).mono ?_); rintro e w18 ⟨rfl, hb⟩; refine ⟨_, rfl, ?_⟩; have n0_ := Aside0.mk (blk_below (g := gb196) (o := .cells #[.string a1_0, .int .i64 a1_1, .int .i64 a1_2, .slice A1_3 l1_3.length c1_3] 32 (0, 0)) (by (with_reducible repeat (first | refine blk_drewN ?_ _ | refine blk_drew ?_ | refine blk_alloc ?_ _)); exact BK196.out) hb); have n1_ := Aside0.mk (blk_below (g := gb197) (o := .cells #[.string a2_0, .int .i64 a2_1, .int .i64 a2_2, .slice A2_3 l2_3.length c2_3] 32 (0, 0)) (by (with_reducible repeat (first | refine blk_drewN ?_ _ | refine blk_drew ?_ | refine blk_alloc ?_ _)); exact BK197.out) hb); have n2_ := Aside0.mk (below_step (by repeat (first | (with_reducible first | exact HB.out | apply below_alloc | apply pw_below_drewN | apply below_drew1 | refine below_set ?_ GE196.out | refine below_set ?_ GE197.out) | exact HB.out)) hb); clear BK196; clear BK197; clear HB; have BK196 := n0_; have BK197 := n1_; have HB := n2_; clear n0_ n1_ n2_; (try clear hb); (try clear hb2); (try clear hk); (try clear hi); have hnb19 := NB196_197.out; have hnc19 := NB197_196.out; have hcz20_0 : w18.cell? ⟨gb196, 0, none⟩ = some (.string a1_0) := (blk_cell BK196.out 0).trans rfl; have hcz20_1 : w18.cell? ⟨gb196, 1, none⟩ = some (.int .i64 a1_1) := (blk_cell BK196.out 1).trans rfl; have hcz20_2 : w18.cell? ⟨gb196, 2, none⟩ = some (.int .i64 a1_2) := (blk_cell BK196.out 2).trans rfl; have hcz20_3 : w18.cell? ⟨gb196, 3, none⟩ = some (.slice A1_3 l1_3.length c1_3) := (blk_cell BK196.out 3).trans rfl; have hfz20_0 := blk_frozen BK196.out 0; have hfz20_1 := blk_frozen BK196.out 1; have hfz20_2 := blk_frozen BK196.out 2; have hfz20_3 := blk_frozen BK196.out 3) | (go_at_call 20; (with_reducible refine (annalistref08_Few.calls k a1_0 a1_1 a1_2 _ _ l1_3 false _ ?side1 ?side2 A9.out).mono ?_); (case side1 => repeat (first | exact (Kd.C_below HR1_3.out HB.out) | (with_reducible refine Kd.C_alloc ?_ _) | (with_reducible refine Kd.C_drewN ?_ _) | (with_reducible refine Kd.C_drew ?_))); (case side2 => exact HC1_3.out); rintro e w21 ⟨rfl, hb⟩; have n0_ := Aside0.mk (blk_below (g := gb196) (o := .cells #[.string a1_0, .int .i64 a1_1, .int .i64 a1_2, .slice A1_3 l1_3.length c1_3] 32 (0, 0)) (by (with_reducible repeat (first | refine blk_drewN ?_ _ | refine blk_drew ?_ | refine blk_alloc ?_ _)); exact BK196.out) hb); have n1_ := Aside0.mk (blk_below (g := gb197) (o := .cells #[.string a2_0, .int .i64 a2_1, .int .i64 a2_2, .slice A2_3 l2_3.length c2_3] 32 (0, 0)) (by (with_reducible repeat (first | refine blk_drewN ?_ _ | refine blk_drew ?_ | refine blk_alloc ?_ _)); exact BK197.out) hb); have n2_ := Aside0.mk (below_step (by repeat (first | (with_reducible first | exact HB.out | apply below_alloc | apply pw_below_drewN | apply below_drew1 | refine below_set ?_ GE196.out | refine below_set ?_ GE197.out) | exact HB.out)) hb); clear BK196; clear BK197; clear HB; have BK196 := n0_; have BK197 := n1_; have HB := n2_; clear n0_ n1_ n2_; (try clear hb); (try clear hb2); (try clear hk); (try clear hi)))
        go_meet
        case rel => exact ⟨_, (true), (by first | rfl | (simp; done) | (simp [*]; done)), H', ⟨by first | omega | exact Nat.le_refl _⟩, ⟨by (with_reducible repeat (first | refine blk_drewN ?_ _ | refine blk_drew ?_ | refine blk_alloc ?_ _)); exact BK196.out⟩, ⟨by (with_reducible repeat (first | refine blk_drewN ?_ _ | refine blk_drew ?_ | refine blk_alloc ?_ _)); exact BK197.out⟩, ⟨by repeat (first | (with_reducible first | exact HB.out | apply below_alloc | apply pw_below_drewN | apply below_drew1 | refine below_set ?_ GE196.out | refine below_set ?_ GE197.out) | exact HB.out)⟩⟩
    · replace c8 := Bool.eq_false_iff.mpr c8
      subst c8
      have H1 : (annalistlaw08_CollideLeaves.j0 k a0 true a1_0 a1_1 a1_2 l1_3 a2_0 a2_1 a2_2 l2_3) = some r := by rw [if_neg (show ¬ (false = true) by decide)] at H; exact H
      clear H
      have H := H1
      clear H1
      have H' := Aside0.mk H
      clear H
      go_wp2_with (first | ((with_reducible refine gate_callee (f := 19) rfl ?_); refine goesL_ (some 14) rfl rfl Try.func19 (by kernel_rfl) rfl #[] rfl (by (try simp only [List.map_toArray, List.map_cons, List.map_nil]); first | done | rfl | (simp only [List.length_drop, List.length_take]; rfl)) ?_; (with_reducible refine (annalistlaw08_awake.calls k  false _ A7.out).mono ?_); rintro e w22 ⟨rfl, hb⟩; refine ⟨_, rfl, ?_⟩; have n0_ := Aside0.mk (blk_below (g := gb196) (o := .cells #[.string a1_0, .int .i64 a1_1, .int .i64 a1_2, .slice A1_3 l1_3.length c1_3] 32 (0, 0)) (by (with_reducible repeat (first | refine blk_drewN ?_ _ | refine blk_drew ?_ | refine blk_alloc ?_ _)); exact BK196.out) hb); have n1_ := Aside0.mk (blk_below (g := gb197) (o := .cells #[.string a2_0, .int .i64 a2_1, .int .i64 a2_2, .slice A2_3 l2_3.length c2_3] 32 (0, 0)) (by (with_reducible repeat (first | refine blk_drewN ?_ _ | refine blk_drew ?_ | refine blk_alloc ?_ _)); exact BK197.out) hb); have n2_ := Aside0.mk (below_step (by repeat (first | (with_reducible first | exact HB.out | apply below_alloc | apply pw_below_drewN | apply below_drew1 | refine below_set ?_ GE196.out | refine below_set ?_ GE197.out) | exact HB.out)) hb); clear BK196; clear BK197; clear HB; have BK196 := n0_; have BK197 := n1_; have HB := n2_; clear n0_ n1_ n2_; (try clear hb); (try clear hb2); (try clear hk); (try clear hi)))
      go_meet
      case rel => exact ⟨_, (true), (by first | rfl | (simp; done) | (simp [*]; done)), H', ⟨by first | omega | exact Nat.le_refl _⟩, ⟨by (with_reducible repeat (first | refine blk_drewN ?_ _ | refine blk_drew ?_ | refine blk_alloc ?_ _)); exact BK196.out⟩, ⟨by (with_reducible repeat (first | refine blk_drewN ?_ _ | refine blk_drew ?_ | refine blk_alloc ?_ _)); exact BK197.out⟩, ⟨by repeat (first | (with_reducible first | exact HB.out | apply below_alloc | apply pw_below_drewN | apply below_drew1 | refine below_set ?_ GE196.out | refine below_set ?_ GE197.out) | exact HB.out)⟩⟩
  case rest =>
    clear HC4
    try clear c1
    try clear c2
    try clear p2
    try clear c8
    try clear c10
    try clear c13
    try clear c19
    try clear hcz14_0
    try clear hcz14_1
    try clear hcz14_2
    try clear hcz14_3
    try clear hcz16_0
    try clear hcz16_1
    try clear hcz16_2
    try clear hcz16_3
    try clear hcz20_0
    try clear hcz20_1
    try clear hcz20_2
    try clear hcz20_3
    try clear hfz14_0
    try clear hfz14_1
    try clear hfz14_2
    try clear hfz14_3
    try clear hfz16_0
    try clear hfz16_1
    try clear hfz16_2
    try clear hfz16_3
    try clear hfz20_0
    try clear hfz20_1
    try clear hfz20_2
    try clear hfz20_3
    obtain ⟨kq, x25_3, rfl, HA, HJ3, BK196, BK197, HB⟩ := hcut
    cases kq with
    | zero => exact absurd HA.out (by simp [annalistlaw08_CollideLeaves.j0])
    | succ kj3 =>
      have H := HA.out
      clear HA
      simp only [annalistlaw08_CollideLeaves.j0] at H
      by_cases c23 : x25_3 = true
      · subst c23
        have H1 : ((annalistlaw08_awake.f kj3).bind fun t201 => (some t201)) = some r := by rw [if_pos rfl] at H; exact H
        clear H
        have H := H1
        clear H1
        replace H := Option.bind_eq_some_iff.mp H
        obtain ⟨t201, A240, H⟩ := H
        replace H : (some t201) = some r := H
        have A24 := Aside0.mk A240
        clear A240
        obtain rfl := Option.some.inj H
        go_wp2_with (first | ((with_reducible refine gate_callee (f := 19) rfl ?_); refine goesL_ (some 26) rfl rfl Try.func19 (by kernel_rfl) rfl #[] rfl (by (try simp only [List.map_toArray, List.map_cons, List.map_nil]); first | done | rfl | (simp only [List.length_drop, List.length_take]; rfl)) ?_; (with_reducible refine (annalistlaw08_awake.calls kj3  t201 _ A24.out).mono ?_); rintro e w25 ⟨rfl, hb⟩; refine ⟨_, rfl, ?_⟩; have n0_ := Aside0.mk (blk_below (g := gb196) (o := .cells #[.string a1_0, .int .i64 a1_1, .int .i64 a1_2, .slice A1_3 l1_3.length c1_3] 32 (0, 0)) (by (with_reducible repeat (first | refine blk_drewN ?_ _ | refine blk_drew ?_ | refine blk_alloc ?_ _)); exact BK196.out) hb); have n1_ := Aside0.mk (blk_below (g := gb197) (o := .cells #[.string a2_0, .int .i64 a2_1, .int .i64 a2_2, .slice A2_3 l2_3.length c2_3] 32 (0, 0)) (by (with_reducible repeat (first | refine blk_drewN ?_ _ | refine blk_drew ?_ | refine blk_alloc ?_ _)); exact BK197.out) hb); have n2_ := Aside0.mk (below_step (by repeat (first | (with_reducible first | exact HB.out | apply below_alloc | apply pw_below_drewN | apply below_drew1 | refine below_set ?_ GE196.out | refine below_set ?_ GE197.out) | exact HB.out)) hb); clear BK196; clear BK197; clear HB; have BK196 := n0_; have BK197 := n1_; have HB := n2_; clear n0_ n1_ n2_; (try clear hb); (try clear hb2); (try clear hk); (try clear hi)))
        go_ret
        exact ⟨by first | rfl | (simp [errW_none, errW_some] <;> rfl) | (simp [*, errW_none, errW_some] <;> rfl), by repeat (first | (with_reducible first | exact HB.out | apply below_alloc | apply pw_below_drewN | apply below_drew1 | refine below_set ?_ GE196.out | refine below_set ?_ GE197.out) | exact HB.out)⟩
      · replace c23 := Bool.eq_false_iff.mpr c23
        subst c23
        have H1 : ((annalistref08_Root.f kj3 a0 a1_0 a1_1 a1_2 l1_3).bind fun bt202 => ((annalistref08_Root.f kj3 a0 a2_0 a2_1 a2_2 l2_3).bind fun bt204 => ((annalistlaw08_leaves.f kj3 a0 bt202.1 a1_0 a1_1 a1_2 l1_3 a2_0 a2_1 a2_2 l2_3).bind fun bt206 => (if bt202.2 = true then (if bt204.2 = true then (if bt202.1.toList = bt204.1.toList then (if a1_1 = a2_1 then (if a1_2 = a2_2 then (annalistlaw08_CollideLeaves.j1 kj3 a0 bt206.2.2 (a1_0.toList != a2_0.toList) bt206.1 bt206.2.1) else (annalistlaw08_CollideLeaves.j1 kj3 a0 bt206.2.2 false bt206.1 bt206.2.1)) else (annalistlaw08_CollideLeaves.j1 kj3 a0 bt206.2.2 false bt206.1 bt206.2.1)) else (annalistlaw08_CollideLeaves.j1 kj3 a0 bt206.2.2 false bt206.1 bt206.2.1)) else (annalistlaw08_CollideLeaves.j1 kj3 a0 bt206.2.2 false bt206.1 bt206.2.1)) else (annalistlaw08_CollideLeaves.j1 kj3 a0 bt206.2.2 false bt206.1 bt206.2.1))))) = some r := by rw [if_neg (show ¬ (false = true) by decide)] at H; exact H
        clear H
        have H := H1
        clear H1
        replace H := Option.bind_eq_some_iff.mp H
        obtain ⟨⟨t202, t203⟩, A260, H⟩ := H
        replace H : ((annalistref08_Root.f kj3 a0 a2_0 a2_1 a2_2 l2_3).bind fun bt204 => ((annalistlaw08_leaves.f kj3 a0 t202 a1_0 a1_1 a1_2 l1_3 a2_0 a2_1 a2_2 l2_3).bind fun bt206 => (if t203 = true then (if bt204.2 = true then (if t202.toList = bt204.1.toList then (if a1_1 = a2_1 then (if a1_2 = a2_2 then (annalistlaw08_CollideLeaves.j1 kj3 a0 bt206.2.2 (a1_0.toList != a2_0.toList) bt206.1 bt206.2.1) else (annalistlaw08_CollideLeaves.j1 kj3 a0 bt206.2.2 false bt206.1 bt206.2.1)) else (annalistlaw08_CollideLeaves.j1 kj3 a0 bt206.2.2 false bt206.1 bt206.2.1)) else (annalistlaw08_CollideLeaves.j1 kj3 a0 bt206.2.2 false bt206.1 bt206.2.1)) else (annalistlaw08_CollideLeaves.j1 kj3 a0 bt206.2.2 false bt206.1 bt206.2.1)) else (annalistlaw08_CollideLeaves.j1 kj3 a0 bt206.2.2 false bt206.1 bt206.2.1)))) = some r := H
        have A26 := Aside0.mk A260
        clear A260
        replace H := Option.bind_eq_some_iff.mp H
        obtain ⟨⟨t204, t205⟩, A270, H⟩ := H
        replace H : ((annalistlaw08_leaves.f kj3 a0 t202 a1_0 a1_1 a1_2 l1_3 a2_0 a2_1 a2_2 l2_3).bind fun bt206 => (if t203 = true then (if t205 = true then (if t202.toList = t204.toList then (if a1_1 = a2_1 then (if a1_2 = a2_2 then (annalistlaw08_CollideLeaves.j1 kj3 a0 bt206.2.2 (a1_0.toList != a2_0.toList) bt206.1 bt206.2.1) else (annalistlaw08_CollideLeaves.j1 kj3 a0 bt206.2.2 false bt206.1 bt206.2.1)) else (annalistlaw08_CollideLeaves.j1 kj3 a0 bt206.2.2 false bt206.1 bt206.2.1)) else (annalistlaw08_CollideLeaves.j1 kj3 a0 bt206.2.2 false bt206.1 bt206.2.1)) else (annalistlaw08_CollideLeaves.j1 kj3 a0 bt206.2.2 false bt206.1 bt206.2.1)) else (annalistlaw08_CollideLeaves.j1 kj3 a0 bt206.2.2 false bt206.1 bt206.2.1))) = some r := H
        have A27 := Aside0.mk A270
        clear A270
        replace H := Option.bind_eq_some_iff.mp H
        obtain ⟨⟨t206, t207, t208⟩, A280, H⟩ := H
        replace H : (if t203 = true then (if t205 = true then (if t202.toList = t204.toList then (if a1_1 = a2_1 then (if a1_2 = a2_2 then (annalistlaw08_CollideLeaves.j1 kj3 a0 t208 (a1_0.toList != a2_0.toList) t206 t207) else (annalistlaw08_CollideLeaves.j1 kj3 a0 t208 false t206 t207)) else (annalistlaw08_CollideLeaves.j1 kj3 a0 t208 false t206 t207)) else (annalistlaw08_CollideLeaves.j1 kj3 a0 t208 false t206 t207)) else (annalistlaw08_CollideLeaves.j1 kj3 a0 t208 false t206 t207)) else (annalistlaw08_CollideLeaves.j1 kj3 a0 t208 false t206 t207)) = some r := H
        have A28 := Aside0.mk A280
        clear A280
        have HC29 := Aside0.mk H
        clear H
        have hnb30 := NB196_197.out
        have hnc30 := NB197_196.out
        have hcz31_0 : wc.cell? ⟨gb196, 0, none⟩ = some (.string a1_0) := (blk_cell BK196.out 0).trans rfl
        have hcz31_1 : wc.cell? ⟨gb196, 1, none⟩ = some (.int .i64 a1_1) := (blk_cell BK196.out 1).trans rfl
        have hcz31_2 : wc.cell? ⟨gb196, 2, none⟩ = some (.int .i64 a1_2) := (blk_cell BK196.out 2).trans rfl
        have hcz31_3 : wc.cell? ⟨gb196, 3, none⟩ = some (.slice A1_3 l1_3.length c1_3) := (blk_cell BK196.out 3).trans rfl
        have hfz31_0 := blk_frozen BK196.out 0
        have hfz31_1 := blk_frozen BK196.out 1
        have hfz31_2 := blk_frozen BK196.out 2
        have hfz31_3 := blk_frozen BK196.out 3
        go_upto_region 6 with (first | ((with_reducible refine gate_callee (f := 22) rfl ?_); refine goesL_ (some 30) rfl rfl Try.func22 (by kernel_rfl) rfl #[.int .u8 a0, .agg #[.string a1_0, .int .i64 a1_1, .int .i64 a1_2, .slice A1_3 l1_3.length c1_3]] rfl (by (try simp only [List.map_toArray, List.map_cons, List.map_nil]); first | done | rfl | (simp only [List.length_drop, List.length_take]; rfl)) ?_; (with_reducible refine (annalistref08_Root.calls kj3 a0 a1_0 a1_1 a1_2 _ _ l1_3 t202 t203 _ ?side1 ?side2 A26.out).mono ?_); (case side1 => repeat (first | exact (Kd.C_below HR1_3.out HB.out) | (with_reducible refine Kd.C_alloc ?_ _) | (with_reducible refine Kd.C_drewN ?_ _) | (with_reducible refine Kd.C_drew ?_))); (case side2 => exact HC1_3.out); rintro e w32 ⟨rfl, hb⟩; refine ⟨_, rfl, ?_⟩; have n0_ := Aside0.mk (blk_below (g := gb196) (o := .cells #[.string a1_0, .int .i64 a1_1, .int .i64 a1_2, .slice A1_3 l1_3.length c1_3] 32 (0, 0)) (by (with_reducible repeat (first | refine blk_drewN ?_ _ | refine blk_drew ?_ | refine blk_alloc ?_ _)); exact BK196.out) hb); have n1_ := Aside0.mk (blk_below (g := gb197) (o := .cells #[.string a2_0, .int .i64 a2_1, .int .i64 a2_2, .slice A2_3 l2_3.length c2_3] 32 (0, 0)) (by (with_reducible repeat (first | refine blk_drewN ?_ _ | refine blk_drew ?_ | refine blk_alloc ?_ _)); exact BK197.out) hb); have n2_ := Aside0.mk (below_step (by repeat (first | (with_reducible first | exact HB.out | apply below_alloc | apply pw_below_drewN | apply below_drew1 | refine below_set ?_ GE196.out | refine below_set ?_ GE197.out) | exact HB.out)) hb); clear BK196; clear BK197; clear HB; have BK196 := n0_; have BK197 := n1_; have HB := n2_; clear n0_ n1_ n2_; (try clear hb); (try clear hb2); (try clear hk); (try clear hi); have hcz33_0 : w32.cell? ⟨gb197, 0, none⟩ = some (.string a2_0) := (blk_cell BK197.out 0).trans rfl; have hcz33_1 : w32.cell? ⟨gb197, 1, none⟩ = some (.int .i64 a2_1) := (blk_cell BK197.out 1).trans rfl; have hcz33_2 : w32.cell? ⟨gb197, 2, none⟩ = some (.int .i64 a2_2) := (blk_cell BK197.out 2).trans rfl; have hcz33_3 : w32.cell? ⟨gb197, 3, none⟩ = some (.slice A2_3 l2_3.length c2_3) := (blk_cell BK197.out 3).trans rfl; have hfz33_0 := blk_frozen BK197.out 0; have hfz33_1 := blk_frozen BK197.out 1; have hfz33_2 := blk_frozen BK197.out 2; have hfz33_3 := blk_frozen BK197.out 3) | ((with_reducible refine gate_callee (f := 22) rfl ?_); refine goesL_ (some 36) rfl rfl Try.func22 (by kernel_rfl) rfl #[.int .u8 a0, .agg #[.string a2_0, .int .i64 a2_1, .int .i64 a2_2, .slice A2_3 l2_3.length c2_3]] rfl (by (try simp only [List.map_toArray, List.map_cons, List.map_nil]); first | done | rfl | (simp only [List.length_drop, List.length_take]; rfl)) ?_; (with_reducible refine (annalistref08_Root.calls kj3 a0 a2_0 a2_1 a2_2 _ _ l2_3 t204 t205 _ ?side1 ?side2 A27.out).mono ?_); (case side1 => repeat (first | exact (Kd.C_below HR2_3.out HB.out) | (with_reducible refine Kd.C_alloc ?_ _) | (with_reducible refine Kd.C_drewN ?_ _) | (with_reducible refine Kd.C_drew ?_))); (case side2 => exact HC2_3.out); rintro e w34 ⟨rfl, hb⟩; refine ⟨_, rfl, ?_⟩; have n0_ := Aside0.mk (blk_below (g := gb196) (o := .cells #[.string a1_0, .int .i64 a1_1, .int .i64 a1_2, .slice A1_3 l1_3.length c1_3] 32 (0, 0)) (by (with_reducible repeat (first | refine blk_drewN ?_ _ | refine blk_drew ?_ | refine blk_alloc ?_ _)); exact BK196.out) hb); have n1_ := Aside0.mk (blk_below (g := gb197) (o := .cells #[.string a2_0, .int .i64 a2_1, .int .i64 a2_2, .slice A2_3 l2_3.length c2_3] 32 (0, 0)) (by (with_reducible repeat (first | refine blk_drewN ?_ _ | refine blk_drew ?_ | refine blk_alloc ?_ _)); exact BK197.out) hb); have n2_ := Aside0.mk (below_step (by repeat (first | (with_reducible first | exact HB.out | apply below_alloc | apply pw_below_drewN | apply below_drew1 | refine below_set ?_ GE196.out | refine below_set ?_ GE197.out) | exact HB.out)) hb); clear BK196; clear BK197; clear HB; have BK196 := n0_; have BK197 := n1_; have HB := n2_; clear n0_ n1_ n2_; (try clear hb); (try clear hb2); (try clear hk); (try clear hi); have hcz35_0 : w34.cell? ⟨gb196, 0, none⟩ = some (.string a1_0) := (blk_cell BK196.out 0).trans rfl; have hcz35_1 : w34.cell? ⟨gb196, 1, none⟩ = some (.int .i64 a1_1) := (blk_cell BK196.out 1).trans rfl; have hcz35_2 : w34.cell? ⟨gb196, 2, none⟩ = some (.int .i64 a1_2) := (blk_cell BK196.out 2).trans rfl; have hcz35_3 : w34.cell? ⟨gb196, 3, none⟩ = some (.slice A1_3 l1_3.length c1_3) := (blk_cell BK196.out 3).trans rfl; have hfz35_0 := blk_frozen BK196.out 0; have hfz35_1 := blk_frozen BK196.out 1; have hfz35_2 := blk_frozen BK196.out 2; have hfz35_3 := blk_frozen BK196.out 3; have hcz36_0 : w34.cell? ⟨gb197, 0, none⟩ = some (.string a2_0) := (blk_cell BK197.out 0).trans rfl; have hcz36_1 : w34.cell? ⟨gb197, 1, none⟩ = some (.int .i64 a2_1) := (blk_cell BK197.out 1).trans rfl; have hcz36_2 : w34.cell? ⟨gb197, 2, none⟩ = some (.int .i64 a2_2) := (blk_cell BK197.out 2).trans rfl; have hcz36_3 : w34.cell? ⟨gb197, 3, none⟩ = some (.slice A2_3 l2_3.length c2_3) := (blk_cell BK197.out 3).trans rfl; have hfz36_0 := blk_frozen BK197.out 0; have hfz36_1 := blk_frozen BK197.out 1; have hfz36_2 := blk_frozen BK197.out 2; have hfz36_3 := blk_frozen BK197.out 3) | ((with_reducible refine gate_callee (f := 32) rfl ?_); refine goesL_ (some 44) rfl rfl Try.func32 (by kernel_rfl) rfl #[.int .u8 a0, .string t202, .agg #[.string a1_0, .int .i64 a1_1, .int .i64 a1_2, .slice A1_3 l1_3.length c1_3], .agg #[.string a2_0, .int .i64 a2_1, .int .i64 a2_2, .slice A2_3 l2_3.length c2_3]] rfl (by (try simp only [List.map_toArray, List.map_cons, List.map_nil]); first | done | rfl | (simp only [List.length_drop, List.length_take]; rfl)) ?_; (with_reducible refine (annalistlaw08_leaves.calls kj3 a0 t202 a1_0 a1_1 a1_2 _ _ l1_3 a2_0 a2_1 a2_2 _ _ l2_3 t206 t207 t208 _ ?side1 ?side2 ?side3 ?side4 A28.out).mono ?_); (case side1 => repeat (first | exact (Kd.C_below HR1_3.out HB.out) | (with_reducible refine Kd.C_alloc ?_ _) | (with_reducible refine Kd.C_drewN ?_ _) | (with_reducible refine Kd.C_drew ?_))); (case side2 => exact HC1_3.out); (case side3 => repeat (first | exact (Kd.C_below HR2_3.out HB.out) | (with_reducible refine Kd.C_alloc ?_ _) | (with_reducible refine Kd.C_drewN ?_ _) | (with_reducible refine Kd.C_drew ?_))); (case side4 => exact HC2_3.out); rintro e w37 ⟨rfl, hb⟩; refine ⟨_, rfl, ?_⟩; have n0_ := Aside0.mk (blk_below (g := gb196) (o := .cells #[.string a1_0, .int .i64 a1_1, .int .i64 a1_2, .slice A1_3 l1_3.length c1_3] 32 (0, 0)) (by (with_reducible repeat (first | refine blk_drewN ?_ _ | refine blk_drew ?_ | refine blk_alloc ?_ _)); exact BK196.out) hb); have n1_ := Aside0.mk (blk_below (g := gb197) (o := .cells #[.string a2_0, .int .i64 a2_1, .int .i64 a2_2, .slice A2_3 l2_3.length c2_3] 32 (0, 0)) (by (with_reducible repeat (first | refine blk_drewN ?_ _ | refine blk_drew ?_ | refine blk_alloc ?_ _)); exact BK197.out) hb); have n2_ := Aside0.mk (below_step (by repeat (first | (with_reducible first | exact HB.out | apply below_alloc | apply pw_below_drewN | apply below_drew1 | refine below_set ?_ GE196.out | refine below_set ?_ GE197.out) | exact HB.out)) hb); clear BK196; clear BK197; clear HB; have BK196 := n0_; have BK197 := n1_; have HB := n2_; clear n0_ n1_ n2_; (try clear hb); (try clear hb2); (try clear hk); (try clear hi)) | ((with_reducible refine gate_dst (N := 11) rfl ?_); refine box_event ?hg (N := 11) ?hd (cs := #[.string (⟨#[]⟩ : ByteArray), .string (⟨#[]⟩ : ByteArray)]) (t := 50) ?hr ?_; (case hd => rfl); (case hg => rfl); (case hr => first | (go_simp; done) | (go_simp; rfl)); intro gb209 hg w38 hbox hb; have n0_ := Aside0.mk (blk_below (g := gb196) (o := .cells #[.string a1_0, .int .i64 a1_1, .int .i64 a1_2, .slice A1_3 l1_3.length c1_3] 32 (0, 0)) (by (with_reducible repeat (first | refine blk_drewN ?_ _ | refine blk_drew ?_ | refine blk_alloc ?_ _)); exact BK196.out) hb); have n1_ := Aside0.mk (blk_below (g := gb197) (o := .cells #[.string a2_0, .int .i64 a2_1, .int .i64 a2_2, .slice A2_3 l2_3.length c2_3] 32 (0, 0)) (by (with_reducible repeat (first | refine blk_drewN ?_ _ | refine blk_drew ?_ | refine blk_alloc ?_ _)); exact BK197.out) hb); have n2_ := Aside0.mk (below_step (by repeat (first | (with_reducible first | exact HB.out | apply below_alloc | apply pw_below_drewN | apply below_drew1 | refine below_set ?_ GE196.out | refine below_set ?_ GE197.out) | exact HB.out)) hb); have n3_ := Aside0.mk (hbox); have n4_ := Aside0.mk ((by rw [hg]; exact (below_size (by repeat (first | (with_reducible first | exact HB.out | apply below_alloc | apply pw_below_drewN | apply below_drew1 | refine below_set ?_ GE196.out | refine below_set ?_ GE197.out) | exact HB.out))) : w.heap.size ≤ gb209)); have n5_ := Aside0.mk ((by rw [hg]; exact (below_size (by repeat (first | (with_reducible first | exact HB.out | apply below_alloc | apply pw_below_drewN | apply below_drew1 | refine below_set ?_ GE196.out | refine below_set ?_ GE197.out) | exact HB.out))) : w.heap.size ≤ gb209)); have n6_ := Aside0.mk ((by rw [hg]; exact Nat.ne_of_lt (blk_lt (g := gb196) (o := .cells #[.string a1_0, .int .i64 a1_1, .int .i64 a1_2, .slice A1_3 l1_3.length c1_3] 32 (0, 0)) (by (with_reducible repeat (first | refine blk_drewN ?_ _ | refine blk_drew ?_ | refine blk_alloc ?_ _)); exact BK196.out)) : gb196 ≠ gb209)); have n7_ := Aside0.mk ((by rw [hg]; exact Nat.ne_of_gt (blk_lt (g := gb196) (o := .cells #[.string a1_0, .int .i64 a1_1, .int .i64 a1_2, .slice A1_3 l1_3.length c1_3] 32 (0, 0)) (by (with_reducible repeat (first | refine blk_drewN ?_ _ | refine blk_drew ?_ | refine blk_alloc ?_ _)); exact BK196.out)) : gb209 ≠ gb196)); have n8_ := Aside0.mk ((by rw [hg]; exact Nat.ne_of_lt (blk_lt (g := gb197) (o := .cells #[.string a2_0, .int .i64 a2_1, .int .i64 a2_2, .slice A2_3 l2_3.length c2_3] 32 (0, 0)) (by (with_reducible repeat (first | refine blk_drewN ?_ _ | refine blk_drew ?_ | refine blk_alloc ?_ _)); exact BK197.out)) : gb197 ≠ gb209)); have n9_ := Aside0.mk ((by rw [hg]; exact Nat.ne_of_gt (blk_lt (g := gb197) (o := .cells #[.string a2_0, .int .i64 a2_1, .int .i64 a2_2, .slice A2_3 l2_3.length c2_3] 32 (0, 0)) (by (with_reducible repeat (first | refine blk_drewN ?_ _ | refine blk_drew ?_ | refine blk_alloc ?_ _)); exact BK197.out)) : gb209 ≠ gb197)); clear BK196; clear BK197; clear HB; have BK196 := n0_; have BK197 := n1_; have HB := n2_; have BK209 := n3_; have GW209 := n4_; have GE209 := n5_; have NB196_209 := n6_; have NB209_196 := n7_; have NB197_209 := n8_; have NB209_197 := n9_; clear n0_ n1_ n2_ n3_ n4_ n5_ n6_ n7_ n8_ n9_; clear hb hbox hg; have hnb39 := NB209_196.out; have hnc39 := NB196_209.out; have hnb40 := NB209_197.out; have hnc40 := NB197_209.out; have hcz41_0 : w38.cell? ⟨gb209, 0, none⟩ = some (.string (⟨#[]⟩ : ByteArray)) := (blk_cell BK209.out 0).trans rfl; have hcz41_1 : w38.cell? ⟨gb209, 1, none⟩ = some (.string (⟨#[]⟩ : ByteArray)) := (blk_cell BK209.out 1).trans rfl; have hfz41_0 := blk_frozen BK209.out 0; have hfz41_1 := blk_frozen BK209.out 1))
        (try simp only [Act.put, List.setIfInBounds_toArray, List.set_cons_zero, List.set_cons_succ])
        go_cut [13] (fun v13 wc => ∃ (kq : Nat) (x13_28 : Bool), v13 = .bool x13_28 ∧ Aside0 (annalistlaw08_CollideLeaves.j1 kq a0 t208 x13_28 t206 t207 = some r) ∧ Aside0 (kq ≤ kj3) ∧ Aside0 (wc.heap[gb196]? = some (.cells #[.string a1_0, .int .i64 a1_1, .int .i64 a1_2, (.slice A1_3 l1_3.length c1_3)] 32 (0, 0))) ∧ Aside0 (wc.heap[gb197]? = some (.cells #[.string a2_0, .int .i64 a2_1, .int .i64 a2_2, (.slice A2_3 l2_3.length c2_3)] 32 (0, 0))) ∧ Aside0 (wc.heap[gb209]? = some (.cells #[.string t206, .string t207] 50 (0, 0))) ∧ Aside0 (Below w.heap.size w wc))
        case first =>
          have H := HC29.out
          clear HC29
          by_cases c42 : t203 = true
          · subst c42
            have H1 : (if t205 = true then (if t202.toList = t204.toList then (if a1_1 = a2_1 then (if a1_2 = a2_2 then (annalistlaw08_CollideLeaves.j1 kj3 a0 t208 (a1_0.toList != a2_0.toList) t206 t207) else (annalistlaw08_CollideLeaves.j1 kj3 a0 t208 false t206 t207)) else (annalistlaw08_CollideLeaves.j1 kj3 a0 t208 false t206 t207)) else (annalistlaw08_CollideLeaves.j1 kj3 a0 t208 false t206 t207)) else (annalistlaw08_CollideLeaves.j1 kj3 a0 t208 false t206 t207)) = some r := by rw [if_pos rfl] at H; exact H
            clear H
            have H := H1
            clear H1
            by_cases c43 : t205 = true
            · subst c43
              have H1 : (if t202.toList = t204.toList then (if a1_1 = a2_1 then (if a1_2 = a2_2 then (annalistlaw08_CollideLeaves.j1 kj3 a0 t208 (a1_0.toList != a2_0.toList) t206 t207) else (annalistlaw08_CollideLeaves.j1 kj3 a0 t208 false t206 t207)) else (annalistlaw08_CollideLeaves.j1 kj3 a0 t208 false t206 t207)) else (annalistlaw08_CollideLeaves.j1 kj3 a0 t208 false t206 t207)) = some r := by rw [if_pos rfl] at H; exact H
              clear H
              have H := H1
              clear H1
              by_cases c44 : t202.toList = t204.toList
              · rw [if_pos c44] at H
                have c44b0 : (t202.toList == t204.toList) = true := beq_iff_eq.mpr c44
                have c44b1 : (t202.toList != t204.toList) = false := bne_eq_false_iff_eq.mpr c44
                clear c44
                (first | rw [c44b0] | (simp only [i64_w, i32_w]; rw [c44b0]) | skip)
                by_cases c45 : a1_1 = a2_1
                · rw [if_pos c45] at H
                  have c45b0 : (a1_1 == a2_1) = true := beq_iff_eq.mpr c45
                  have c45b1 : (a1_1 != a2_1) = false := bne_eq_false_iff_eq.mpr c45
                  clear c45
                  by_cases c46 : a1_2 = a2_2
                  · rw [if_pos c46] at H
                    have c46b0 : (a1_2 == a2_2) = true := beq_iff_eq.mpr c46
                    have c46b1 : (a1_2 != a2_2) = false := bne_eq_false_iff_eq.mpr c46
                    clear c46
                    have H' := Aside0.mk H
                    clear H
                    have hnb47 := NB196_197.out
                    have hnc47 := NB197_196.out
                    have hnb48 := NB196_209.out
                    have hnc48 := NB209_196.out
                    have hcz49_0 : w38.cell? ⟨gb196, 0, none⟩ = some (.string a1_0) := (blk_cell BK196.out 0).trans rfl
                    have hcz49_1 : w38.cell? ⟨gb196, 1, none⟩ = some (.int .i64 a1_1) := (blk_cell BK196.out 1).trans rfl
                    have hcz49_2 : w38.cell? ⟨gb196, 2, none⟩ = some (.int .i64 a1_2) := (blk_cell BK196.out 2).trans rfl
                    have hcz49_3 : w38.cell? ⟨gb196, 3, none⟩ = some (.slice A1_3 l1_3.length c1_3) := (blk_cell BK196.out 3).trans rfl
                    have hfz49_0 := blk_frozen BK196.out 0
                    have hfz49_1 := blk_frozen BK196.out 1
                    have hfz49_2 := blk_frozen BK196.out 2
                    have hfz49_3 := blk_frozen BK196.out 3
                    have hnb50 := NB197_209.out
                    have hnc50 := NB209_197.out
                    have hcz51_0 : w38.cell? ⟨gb197, 0, none⟩ = some (.string a2_0) := (blk_cell BK197.out 0).trans rfl
                    have hcz51_1 : w38.cell? ⟨gb197, 1, none⟩ = some (.int .i64 a2_1) := (blk_cell BK197.out 1).trans rfl
                    have hcz51_2 : w38.cell? ⟨gb197, 2, none⟩ = some (.int .i64 a2_2) := (blk_cell BK197.out 2).trans rfl
                    have hcz51_3 : w38.cell? ⟨gb197, 3, none⟩ = some (.slice A2_3 l2_3.length c2_3) := (blk_cell BK197.out 3).trans rfl
                    have hfz51_0 := blk_frozen BK197.out 0
                    have hfz51_1 := blk_frozen BK197.out 1
                    have hfz51_2 := blk_frozen BK197.out 2
                    have hfz51_3 := blk_frozen BK197.out 3
                    go_wp2
                    go_meet
                    case rel => exact ⟨_, ((a1_0.toList != a2_0.toList)), (by first | rfl | (simp; done) | (simp [*]; done)), H', ⟨by have := HJ3.out; first | omega | exact Nat.le_refl _⟩, ⟨by (with_reducible repeat (first | refine blk_drewN ?_ _ | refine blk_drew ?_ | refine blk_alloc ?_ _)); refine blk_far ?_ NB196_209.out _; (with_reducible repeat (first | refine blk_drewN ?_ _ | refine blk_drew ?_ | refine blk_alloc ?_ _)); refine blk_far ?_ NB196_209.out _; (with_reducible repeat (first | refine blk_drewN ?_ _ | refine blk_drew ?_ | refine blk_alloc ?_ _)); exact BK196.out⟩, ⟨by (with_reducible repeat (first | refine blk_drewN ?_ _ | refine blk_drew ?_ | refine blk_alloc ?_ _)); refine blk_far ?_ NB197_209.out _; (with_reducible repeat (first | refine blk_drewN ?_ _ | refine blk_drew ?_ | refine blk_alloc ?_ _)); refine blk_far ?_ NB197_209.out _; (with_reducible repeat (first | refine blk_drewN ?_ _ | refine blk_drew ?_ | refine blk_alloc ?_ _)); exact BK197.out⟩, ⟨by (with_reducible repeat (first | refine blk_drewN ?_ _ | refine blk_drew ?_ | refine blk_alloc ?_ _)); refine blk_put (cs := #[.string t206, .string (⟨#[]⟩ : ByteArray)]) ?_ 1 _ rfl; (with_reducible repeat (first | refine blk_drewN ?_ _ | refine blk_drew ?_ | refine blk_alloc ?_ _)); refine blk_put (cs := #[.string (⟨#[]⟩ : ByteArray), .string (⟨#[]⟩ : ByteArray)]) ?_ 0 _ rfl; (with_reducible repeat (first | refine blk_drewN ?_ _ | refine blk_drew ?_ | refine blk_alloc ?_ _)); exact BK209.out⟩, ⟨by repeat (first | (with_reducible first | exact HB.out | apply below_alloc | apply pw_below_drewN | apply below_drew1 | refine below_set ?_ GE196.out | refine below_set ?_ GE197.out | refine below_set ?_ GE209.out) | exact HB.out)⟩⟩
                  · rw [if_neg c46] at H
                    have c46b0 : (a1_2 == a2_2) = false := beq_eq_false_iff_ne.mpr c46
                    have c46b1 : (a1_2 != a2_2) = true := bne_iff_ne.mpr c46
                    have H' := Aside0.mk H
                    clear H
                    have hnb52 := NB196_197.out
                    have hnc52 := NB197_196.out
                    have hnb53 := NB196_209.out
                    have hnc53 := NB209_196.out
                    have hcz54_0 : w38.cell? ⟨gb196, 0, none⟩ = some (.string a1_0) := (blk_cell BK196.out 0).trans rfl
                    have hcz54_1 : w38.cell? ⟨gb196, 1, none⟩ = some (.int .i64 a1_1) := (blk_cell BK196.out 1).trans rfl
                    have hcz54_2 : w38.cell? ⟨gb196, 2, none⟩ = some (.int .i64 a1_2) := (blk_cell BK196.out 2).trans rfl
                    have hcz54_3 : w38.cell? ⟨gb196, 3, none⟩ = some (.slice A1_3 l1_3.length c1_3) := (blk_cell BK196.out 3).trans rfl
                    have hfz54_0 := blk_frozen BK196.out 0
                    have hfz54_1 := blk_frozen BK196.out 1
                    have hfz54_2 := blk_frozen BK196.out 2
                    have hfz54_3 := blk_frozen BK196.out 3
                    have hnb55 := NB197_209.out
                    have hnc55 := NB209_197.out
                    have hcz56_0 : w38.cell? ⟨gb197, 0, none⟩ = some (.string a2_0) := (blk_cell BK197.out 0).trans rfl
                    have hcz56_1 : w38.cell? ⟨gb197, 1, none⟩ = some (.int .i64 a2_1) := (blk_cell BK197.out 1).trans rfl
                    have hcz56_2 : w38.cell? ⟨gb197, 2, none⟩ = some (.int .i64 a2_2) := (blk_cell BK197.out 2).trans rfl
                    have hcz56_3 : w38.cell? ⟨gb197, 3, none⟩ = some (.slice A2_3 l2_3.length c2_3) := (blk_cell BK197.out 3).trans rfl
                    have hfz56_0 := blk_frozen BK197.out 0
                    have hfz56_1 := blk_frozen BK197.out 1
                    have hfz56_2 := blk_frozen BK197.out 2
                    have hfz56_3 := blk_frozen BK197.out 3
                    go_wp2
                    go_meet
                    case rel => exact ⟨_, (false), (by first | rfl | (simp; done) | (simp [*]; done)), H', ⟨by have := HJ3.out; first | omega | exact Nat.le_refl _⟩, ⟨by (with_reducible repeat (first | refine blk_drewN ?_ _ | refine blk_drew ?_ | refine blk_alloc ?_ _)); refine blk_far ?_ NB196_209.out _; (with_reducible repeat (first | refine blk_drewN ?_ _ | refine blk_drew ?_ | refine blk_alloc ?_ _)); refine blk_far ?_ NB196_209.out _; (with_reducible repeat (first | refine blk_drewN ?_ _ | refine blk_drew ?_ | refine blk_alloc ?_ _)); exact BK196.out⟩, ⟨by (with_reducible repeat (first | refine blk_drewN ?_ _ | refine blk_drew ?_ | refine blk_alloc ?_ _)); refine blk_far ?_ NB197_209.out _; (with_reducible repeat (first | refine blk_drewN ?_ _ | refine blk_drew ?_ | refine blk_alloc ?_ _)); refine blk_far ?_ NB197_209.out _; (with_reducible repeat (first | refine blk_drewN ?_ _ | refine blk_drew ?_ | refine blk_alloc ?_ _)); exact BK197.out⟩, ⟨by (with_reducible repeat (first | refine blk_drewN ?_ _ | refine blk_drew ?_ | refine blk_alloc ?_ _)); refine blk_put (cs := #[.string t206, .string (⟨#[]⟩ : ByteArray)]) ?_ 1 _ rfl; (with_reducible repeat (first | refine blk_drewN ?_ _ | refine blk_drew ?_ | refine blk_alloc ?_ _)); refine blk_put (cs := #[.string (⟨#[]⟩ : ByteArray), .string (⟨#[]⟩ : ByteArray)]) ?_ 0 _ rfl; (with_reducible repeat (first | refine blk_drewN ?_ _ | refine blk_drew ?_ | refine blk_alloc ?_ _)); exact BK209.out⟩, ⟨by repeat (first | (with_reducible first | exact HB.out | apply below_alloc | apply pw_below_drewN | apply below_drew1 | refine below_set ?_ GE196.out | refine below_set ?_ GE197.out | refine below_set ?_ GE209.out) | exact HB.out)⟩⟩
                · rw [if_neg c45] at H
                  have c45b0 : (a1_1 == a2_1) = false := beq_eq_false_iff_ne.mpr c45
                  have c45b1 : (a1_1 != a2_1) = true := bne_iff_ne.mpr c45
                  have H' := Aside0.mk H
                  clear H
                  have hnb57 := NB196_197.out
                  have hnc57 := NB197_196.out
                  have hnb58 := NB196_209.out
                  have hnc58 := NB209_196.out
                  have hcz59_0 : w38.cell? ⟨gb196, 0, none⟩ = some (.string a1_0) := (blk_cell BK196.out 0).trans rfl
                  have hcz59_1 : w38.cell? ⟨gb196, 1, none⟩ = some (.int .i64 a1_1) := (blk_cell BK196.out 1).trans rfl
                  have hcz59_2 : w38.cell? ⟨gb196, 2, none⟩ = some (.int .i64 a1_2) := (blk_cell BK196.out 2).trans rfl
                  have hcz59_3 : w38.cell? ⟨gb196, 3, none⟩ = some (.slice A1_3 l1_3.length c1_3) := (blk_cell BK196.out 3).trans rfl
                  have hfz59_0 := blk_frozen BK196.out 0
                  have hfz59_1 := blk_frozen BK196.out 1
                  have hfz59_2 := blk_frozen BK196.out 2
                  have hfz59_3 := blk_frozen BK196.out 3
                  have hnb60 := NB197_209.out
                  have hnc60 := NB209_197.out
                  have hcz61_0 : w38.cell? ⟨gb197, 0, none⟩ = some (.string a2_0) := (blk_cell BK197.out 0).trans rfl
                  have hcz61_1 : w38.cell? ⟨gb197, 1, none⟩ = some (.int .i64 a2_1) := (blk_cell BK197.out 1).trans rfl
                  have hcz61_2 : w38.cell? ⟨gb197, 2, none⟩ = some (.int .i64 a2_2) := (blk_cell BK197.out 2).trans rfl
                  have hcz61_3 : w38.cell? ⟨gb197, 3, none⟩ = some (.slice A2_3 l2_3.length c2_3) := (blk_cell BK197.out 3).trans rfl
                  have hfz61_0 := blk_frozen BK197.out 0
                  have hfz61_1 := blk_frozen BK197.out 1
                  have hfz61_2 := blk_frozen BK197.out 2
                  have hfz61_3 := blk_frozen BK197.out 3
                  go_wp2
                  go_meet
                  case rel => exact ⟨_, (false), (by first | rfl | (simp; done) | (simp [*]; done)), H', ⟨by have := HJ3.out; first | omega | exact Nat.le_refl _⟩, ⟨by (with_reducible repeat (first | refine blk_drewN ?_ _ | refine blk_drew ?_ | refine blk_alloc ?_ _)); refine blk_far ?_ NB196_209.out _; (with_reducible repeat (first | refine blk_drewN ?_ _ | refine blk_drew ?_ | refine blk_alloc ?_ _)); refine blk_far ?_ NB196_209.out _; (with_reducible repeat (first | refine blk_drewN ?_ _ | refine blk_drew ?_ | refine blk_alloc ?_ _)); exact BK196.out⟩, ⟨by (with_reducible repeat (first | refine blk_drewN ?_ _ | refine blk_drew ?_ | refine blk_alloc ?_ _)); refine blk_far ?_ NB197_209.out _; (with_reducible repeat (first | refine blk_drewN ?_ _ | refine blk_drew ?_ | refine blk_alloc ?_ _)); refine blk_far ?_ NB197_209.out _; (with_reducible repeat (first | refine blk_drewN ?_ _ | refine blk_drew ?_ | refine blk_alloc ?_ _)); exact BK197.out⟩, ⟨by (with_reducible repeat (first | refine blk_drewN ?_ _ | refine blk_drew ?_ | refine blk_alloc ?_ _)); refine blk_put (cs := #[.string t206, .string (⟨#[]⟩ : ByteArray)]) ?_ 1 _ rfl; (with_reducible repeat (first | refine blk_drewN ?_ _ | refine blk_drew ?_ | refine blk_alloc ?_ _)); refine blk_put (cs := #[.string (⟨#[]⟩ : ByteArray), .string (⟨#[]⟩ : ByteArray)]) ?_ 0 _ rfl; (with_reducible repeat (first | refine blk_drewN ?_ _ | refine blk_drew ?_ | refine blk_alloc ?_ _)); exact BK209.out⟩, ⟨by repeat (first | (with_reducible first | exact HB.out | apply below_alloc | apply pw_below_drewN | apply below_drew1 | refine below_set ?_ GE196.out | refine below_set ?_ GE197.out | refine below_set ?_ GE209.out) | exact HB.out)⟩⟩
              · rw [if_neg c44] at H
                have c44b0 : (t202.toList == t204.toList) = false := beq_eq_false_iff_ne.mpr c44
                have c44b1 : (t202.toList != t204.toList) = true := bne_iff_ne.mpr c44
                (first | rw [c44b0] | (simp only [i64_w, i32_w]; rw [c44b0]) | skip)
                have H' := Aside0.mk H
                clear H
                go_wp2
                go_meet
                case rel => exact ⟨_, (false), (by first | rfl | (simp; done) | (simp [*]; done)), H', ⟨by have := HJ3.out; first | omega | exact Nat.le_refl _⟩, ⟨by (with_reducible repeat (first | refine blk_drewN ?_ _ | refine blk_drew ?_ | refine blk_alloc ?_ _)); refine blk_far ?_ NB196_209.out _; (with_reducible repeat (first | refine blk_drewN ?_ _ | refine blk_drew ?_ | refine blk_alloc ?_ _)); refine blk_far ?_ NB196_209.out _; (with_reducible repeat (first | refine blk_drewN ?_ _ | refine blk_drew ?_ | refine blk_alloc ?_ _)); exact BK196.out⟩, ⟨by (with_reducible repeat (first | refine blk_drewN ?_ _ | refine blk_drew ?_ | refine blk_alloc ?_ _)); refine blk_far ?_ NB197_209.out _; (with_reducible repeat (first | refine blk_drewN ?_ _ | refine blk_drew ?_ | refine blk_alloc ?_ _)); refine blk_far ?_ NB197_209.out _; (with_reducible repeat (first | refine blk_drewN ?_ _ | refine blk_drew ?_ | refine blk_alloc ?_ _)); exact BK197.out⟩, ⟨by (with_reducible repeat (first | refine blk_drewN ?_ _ | refine blk_drew ?_ | refine blk_alloc ?_ _)); refine blk_put (cs := #[.string t206, .string (⟨#[]⟩ : ByteArray)]) ?_ 1 _ rfl; (with_reducible repeat (first | refine blk_drewN ?_ _ | refine blk_drew ?_ | refine blk_alloc ?_ _)); refine blk_put (cs := #[.string (⟨#[]⟩ : ByteArray), .string (⟨#[]⟩ : ByteArray)]) ?_ 0 _ rfl; (with_reducible repeat (first | refine blk_drewN ?_ _ | refine blk_drew ?_ | refine blk_alloc ?_ _)); exact BK209.out⟩, ⟨by repeat (first | (with_reducible first | exact HB.out | apply below_alloc | apply pw_below_drewN | apply below_drew1 | refine below_set ?_ GE196.out | refine below_set ?_ GE197.out | refine below_set ?_ GE209.out) | exact HB.out)⟩⟩
            · replace c43 := Bool.eq_false_iff.mpr c43
              subst c43
              have H1 : (annalistlaw08_CollideLeaves.j1 kj3 a0 t208 false t206 t207) = some r := by rw [if_neg (show ¬ (false = true) by decide)] at H; exact H
              clear H
              have H := H1
              clear H1
              have H' := Aside0.mk H
              clear H
              go_wp2
              go_meet
              case rel => exact ⟨_, (false), (by first | rfl | (simp; done) | (simp [*]; done)), H', ⟨by have := HJ3.out; first | omega | exact Nat.le_refl _⟩, ⟨by (with_reducible repeat (first | refine blk_drewN ?_ _ | refine blk_drew ?_ | refine blk_alloc ?_ _)); refine blk_far ?_ NB196_209.out _; (with_reducible repeat (first | refine blk_drewN ?_ _ | refine blk_drew ?_ | refine blk_alloc ?_ _)); refine blk_far ?_ NB196_209.out _; (with_reducible repeat (first | refine blk_drewN ?_ _ | refine blk_drew ?_ | refine blk_alloc ?_ _)); exact BK196.out⟩, ⟨by (with_reducible repeat (first | refine blk_drewN ?_ _ | refine blk_drew ?_ | refine blk_alloc ?_ _)); refine blk_far ?_ NB197_209.out _; (with_reducible repeat (first | refine blk_drewN ?_ _ | refine blk_drew ?_ | refine blk_alloc ?_ _)); refine blk_far ?_ NB197_209.out _; (with_reducible repeat (first | refine blk_drewN ?_ _ | refine blk_drew ?_ | refine blk_alloc ?_ _)); exact BK197.out⟩, ⟨by (with_reducible repeat (first | refine blk_drewN ?_ _ | refine blk_drew ?_ | refine blk_alloc ?_ _)); refine blk_put (cs := #[.string t206, .string (⟨#[]⟩ : ByteArray)]) ?_ 1 _ rfl; (with_reducible repeat (first | refine blk_drewN ?_ _ | refine blk_drew ?_ | refine blk_alloc ?_ _)); refine blk_put (cs := #[.string (⟨#[]⟩ : ByteArray), .string (⟨#[]⟩ : ByteArray)]) ?_ 0 _ rfl; (with_reducible repeat (first | refine blk_drewN ?_ _ | refine blk_drew ?_ | refine blk_alloc ?_ _)); exact BK209.out⟩, ⟨by repeat (first | (with_reducible first | exact HB.out | apply below_alloc | apply pw_below_drewN | apply below_drew1 | refine below_set ?_ GE196.out | refine below_set ?_ GE197.out | refine below_set ?_ GE209.out) | exact HB.out)⟩⟩
          · replace c42 := Bool.eq_false_iff.mpr c42
            subst c42
            have H1 : (annalistlaw08_CollideLeaves.j1 kj3 a0 t208 false t206 t207) = some r := by rw [if_neg (show ¬ (false = true) by decide)] at H; exact H
            clear H
            have H := H1
            clear H1
            have H' := Aside0.mk H
            clear H
            go_wp2
            go_meet
            case rel => exact ⟨_, (false), (by first | rfl | (simp; done) | (simp [*]; done)), H', ⟨by have := HJ3.out; first | omega | exact Nat.le_refl _⟩, ⟨by (with_reducible repeat (first | refine blk_drewN ?_ _ | refine blk_drew ?_ | refine blk_alloc ?_ _)); refine blk_far ?_ NB196_209.out _; (with_reducible repeat (first | refine blk_drewN ?_ _ | refine blk_drew ?_ | refine blk_alloc ?_ _)); refine blk_far ?_ NB196_209.out _; (with_reducible repeat (first | refine blk_drewN ?_ _ | refine blk_drew ?_ | refine blk_alloc ?_ _)); exact BK196.out⟩, ⟨by (with_reducible repeat (first | refine blk_drewN ?_ _ | refine blk_drew ?_ | refine blk_alloc ?_ _)); refine blk_far ?_ NB197_209.out _; (with_reducible repeat (first | refine blk_drewN ?_ _ | refine blk_drew ?_ | refine blk_alloc ?_ _)); refine blk_far ?_ NB197_209.out _; (with_reducible repeat (first | refine blk_drewN ?_ _ | refine blk_drew ?_ | refine blk_alloc ?_ _)); exact BK197.out⟩, ⟨by (with_reducible repeat (first | refine blk_drewN ?_ _ | refine blk_drew ?_ | refine blk_alloc ?_ _)); refine blk_put (cs := #[.string t206, .string (⟨#[]⟩ : ByteArray)]) ?_ 1 _ rfl; (with_reducible repeat (first | refine blk_drewN ?_ _ | refine blk_drew ?_ | refine blk_alloc ?_ _)); refine blk_put (cs := #[.string (⟨#[]⟩ : ByteArray), .string (⟨#[]⟩ : ByteArray)]) ?_ 0 _ rfl; (with_reducible repeat (first | refine blk_drewN ?_ _ | refine blk_drew ?_ | refine blk_alloc ?_ _)); exact BK209.out⟩, ⟨by repeat (first | (with_reducible first | exact HB.out | apply below_alloc | apply pw_below_drewN | apply below_drew1 | refine below_set ?_ GE196.out | refine below_set ?_ GE197.out | refine below_set ?_ GE209.out) | exact HB.out)⟩⟩
        case rest =>
          clear HC29
          try clear c1
          try clear c2
          try clear p2
          try clear c3
          try clear c4
          try clear c5
          try clear c6
          try clear c8
          try clear c10
          try clear c13
          try clear c19
          try clear c22
          try clear c23
          try clear c30
          try clear c32
          try clear c39
          try clear c40
          try clear c42
          try clear c43
          try clear c44
          try clear c44b0
          try clear c44b1
          try clear c45
          try clear c45b0
          try clear c45b1
          try clear c46
          try clear c46b0
          try clear c46b1
          try clear c47
          try clear c48
          try clear c50
          try clear c52
          try clear c53
          try clear c55
          try clear c57
          try clear c58
          try clear c60
          try clear hcz14_0
          try clear hcz14_1
          try clear hcz14_2
          try clear hcz14_3
          try clear hcz16_0
          try clear hcz16_1
          try clear hcz16_2
          try clear hcz16_3
          try clear hcz20_0
          try clear hcz20_1
          try clear hcz20_2
          try clear hcz20_3
          try clear hcz31_0
          try clear hcz31_1
          try clear hcz31_2
          try clear hcz31_3
          try clear hcz33_0
          try clear hcz33_1
          try clear hcz33_2
          try clear hcz33_3
          try clear hcz35_0
          try clear hcz35_1
          try clear hcz35_2
          try clear hcz35_3
          try clear hcz36_0
          try clear hcz36_1
          try clear hcz36_2
          try clear hcz36_3
          try clear hcz41_0
          try clear hcz41_1
          try clear hcz49_0
          try clear hcz49_1
          try clear hcz49_2
          try clear hcz49_3
          try clear hcz51_0
          try clear hcz51_1
          try clear hcz51_2
          try clear hcz51_3
          try clear hcz54_0
          try clear hcz54_1
          try clear hcz54_2
          try clear hcz54_3
          try clear hcz56_0
          try clear hcz56_1
          try clear hcz56_2
          try clear hcz56_3
          try clear hcz59_0
          try clear hcz59_1
          try clear hcz59_2
          try clear hcz59_3
          try clear hcz61_0
          try clear hcz61_1
          try clear hcz61_2
          try clear hcz61_3
          try clear hfz14_0
          try clear hfz14_1
          try clear hfz14_2
          try clear hfz14_3
          try clear hfz16_0
          try clear hfz16_1
          try clear hfz16_2
          try clear hfz16_3
          try clear hfz20_0
          try clear hfz20_1
          try clear hfz20_2
          try clear hfz20_3
          try clear hfz31_0
          try clear hfz31_1
          try clear hfz31_2
          try clear hfz31_3
          try clear hfz33_0
          try clear hfz33_1
          try clear hfz33_2
          try clear hfz33_3
          try clear hfz35_0
          try clear hfz35_1
          try clear hfz35_2
          try clear hfz35_3
          try clear hfz36_0
          try clear hfz36_1
          try clear hfz36_2
          try clear hfz36_3
          try clear hfz41_0
          try clear hfz41_1
          try clear hfz49_0
          try clear hfz49_1
          try clear hfz49_2
          try clear hfz49_3
          try clear hfz51_0
          try clear hfz51_1
          try clear hfz51_2
          try clear hfz51_3
          try clear hfz54_0
          try clear hfz54_1
          try clear hfz54_2
          try clear hfz54_3
          try clear hfz56_0
          try clear hfz56_1
          try clear hfz56_2
          try clear hfz56_3
          try clear hfz59_0
          try clear hfz59_1
          try clear hfz59_2
          try clear hfz59_3
          try clear hfz61_0
          try clear hfz61_1
          try clear hfz61_2
          try clear hfz61_3
          try clear p2
          obtain ⟨kq, x13_28, rfl, HA, HJ28, BK196, BK197, BK209, HB⟩ := hcut
          cases kq with
          | zero => exact absurd HA.out (by simp [annalistlaw08_CollideLeaves.j1])
          | succ kj28 =>
            have H := HA.out
            clear HA
            simp only [annalistlaw08_CollideLeaves.j1] at H
            by_cases c62 : (t208 != x13_28) = true
            · rw [if_pos c62] at H
              have c62b0 : (t208 != x13_28) = true := c62
              (try (have c62b1 : decide (t208 = x13_28) = false := by simpa using c62))
              (try (have c62b2 : (t208 == x13_28) = false := by simpa using c62))
              (try (have c62b3 : ¬ (t208 = x13_28) := by simpa using c62))
              clear c62
              obtain rfl := Option.some.inj H
              go_wp2
              go_ret
              exact ⟨by first | rfl | (simp [errW_none, errW_some] <;> rfl) | (simp [*, errW_none, errW_some] <;> rfl), by repeat (first | (with_reducible first | exact HB.out | apply below_alloc | apply pw_below_drewN | apply below_drew1 | refine below_set ?_ GE196.out | refine below_set ?_ GE197.out | refine below_set ?_ GE209.out) | exact HB.out)⟩
            · rw [if_neg c62] at H
              have c62b0 : (t208 != x13_28) = false := by simpa using c62
              (try (have c62b1 : decide (t208 = x13_28) = true := by simpa using c62))
              (try (have c62b2 : (t208 == x13_28) = true := by simpa using c62))
              clear c62
              by_cases c63 : t208 = true
              · subst c63
                have H1 : ((annalistref08_Collides.f kj28 a0 t206 t207).bind fun t210 => (some t210)) = some r := by rw [if_pos rfl] at H; exact H
                clear H
                have H := H1
                clear H1
                replace H := Option.bind_eq_some_iff.mp H
                obtain ⟨t210, A640, H⟩ := H
                replace H : (some t210) = some r := H
                have A64 := Aside0.mk A640
                clear A640
                obtain rfl := Option.some.inj H
                have hnb65 := NB209_196.out
                have hnc65 := NB196_209.out
                have hnb66 := NB209_197.out
                have hnc66 := NB197_209.out
                have hcz67_0 : wc.cell? ⟨gb209, 0, none⟩ = some (.string t206) := (blk_cell BK209.out 0).trans rfl
                have hcz67_1 : wc.cell? ⟨gb209, 1, none⟩ = some (.string t207) := (blk_cell BK209.out 1).trans rfl
                have hfz67_0 := blk_frozen BK209.out 0
                have hfz67_1 := blk_frozen BK209.out 1
                go_wp2_with (first | ((with_reducible refine gate_callee (f := 33) rfl ?_); refine goesL_ (some 87) rfl rfl Try.func33 (by kernel_rfl) rfl #[.int .u8 a0, .agg #[.string t206, .string t207]] rfl (by (try simp only [List.map_toArray, List.map_cons, List.map_nil]); first | done | rfl | (simp only [List.length_drop, List.length_take]; rfl)) ?_; (with_reducible refine (annalistref08_Collides.calls kj28 a0 t206 t207 t210 _ A64.out).mono ?_); rintro e w68 ⟨rfl, hb⟩; refine ⟨_, rfl, ?_⟩; have n0_ := Aside0.mk (blk_below (g := gb196) (o := .cells #[.string a1_0, .int .i64 a1_1, .int .i64 a1_2, .slice A1_3 l1_3.length c1_3] 32 (0, 0)) (by (with_reducible repeat (first | refine blk_drewN ?_ _ | refine blk_drew ?_ | refine blk_alloc ?_ _)); exact BK196.out) hb); have n1_ := Aside0.mk (blk_below (g := gb197) (o := .cells #[.string a2_0, .int .i64 a2_1, .int .i64 a2_2, .slice A2_3 l2_3.length c2_3] 32 (0, 0)) (by (with_reducible repeat (first | refine blk_drewN ?_ _ | refine blk_drew ?_ | refine blk_alloc ?_ _)); exact BK197.out) hb); have n2_ := Aside0.mk (blk_below (g := gb209) (o := .cells #[.string t206, .string t207] 50 (0, 0)) (by (with_reducible repeat (first | refine blk_drewN ?_ _ | refine blk_drew ?_ | refine blk_alloc ?_ _)); exact BK209.out) hb); have n3_ := Aside0.mk (below_step (by repeat (first | (with_reducible first | exact HB.out | apply below_alloc | apply pw_below_drewN | apply below_drew1 | refine below_set ?_ GE196.out | refine below_set ?_ GE197.out | refine below_set ?_ GE209.out) | exact HB.out)) hb); clear BK196; clear BK197; clear BK209; clear HB; have BK196 := n0_; have BK197 := n1_; have BK209 := n2_; have HB := n3_; clear n0_ n1_ n2_ n3_; (try clear hb); (try clear hb2); (try clear hk); (try clear hi)))
                go_ret
                exact ⟨by first | rfl | (simp [errW_none, errW_some] <;> rfl) | (simp [*, errW_none, errW_some] <;> rfl), by repeat (first | (with_reducible first | exact HB.out | apply below_alloc | apply pw_below_drewN | apply below_drew1 | refine below_set ?_ GE196.out | refine below_set ?_ GE197.out | refine below_set ?_ GE209.out) | exact HB.out)⟩
              · replace c63 := Bool.eq_false_iff.mpr c63
                subst c63
                have H1 : (some (t206.toList == ([] : List UInt8) && (t207.toList == ([] : List UInt8)))) = some r := by rw [if_neg (show ¬ (false = true) by decide)] at H; exact H
                clear H
                have H := H1
                clear H1
                obtain rfl := Option.some.inj H
                have hnb69 := NB209_196.out
                have hnc69 := NB196_209.out
                have hnb70 := NB209_197.out
                have hnc70 := NB197_209.out
                have hcz71_0 : wc.cell? ⟨gb209, 0, none⟩ = some (.string t206) := (blk_cell BK209.out 0).trans rfl
                have hcz71_1 : wc.cell? ⟨gb209, 1, none⟩ = some (.string t207) := (blk_cell BK209.out 1).trans rfl
                have hfz71_0 := blk_frozen BK209.out 0
                have hfz71_1 := blk_frozen BK209.out 1
                go_wp2
                go_ret
                exact ⟨by first | rfl | (simp [errW_none, errW_some] <;> rfl) | (simp [*, errW_none, errW_some] <;> rfl), by repeat (first | (with_reducible first | exact HB.out | apply below_alloc | apply pw_below_drewN | apply below_drew1 | refine below_set ?_ GE196.out | refine below_set ?_ GE197.out | refine below_set ?_ GE209.out) | exact HB.out)⟩

end Go.Proofs.Ytolapikiflodfaa.PCollideLeaves
