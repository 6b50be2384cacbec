import Derived.Test.YtolapikiflodfaaQTileCoversx0
import Derived.Test.YtolapikiflodfaaQTileCoversx1
namespace Go.Proofs.Ytolapikiflodfaa.PTileCovers
open Go.RowKit Go.Proofs.YtolapikiflodfaaW.PrintWords Go.Proofs.YtolapikiflodfaaW.PrintLast Go.Proofs.YtolapikiflodfaaW.PrintMore
attribute [local go_sem] max2_int min2_int max_two min_two max_three min_three max_four min_four   -- for this text's walks alone
set_option linter.unusedVariables false
set_option linter.unusedSimpArgs false

/-! ### annalistlaw07_TileCovers: function 3 -/
mutual
def annalistlaw07_TileCovers.l0 : Nat → Int → List (S26) → Int → Option (Bool)
  | 0, _, _, _ => none
  | k + 1, x3, x4, x5 => if x5 < 5 then (annalistlaw07_TileCovers.l1 k x3 x4 x5 0 0) else (some true)
def annalistlaw07_TileCovers.l1 : Nat → Int → List (S26) → Int → Int → Int → Option (Bool)
  | 0, _, _, _, _, _ => none
  | k + 1, x3, x4, x5, x6, x7 => if x7 < (x4.length : Int) then (if 0 ≤ x7 then (if ((rd_T26 x4 x7).f0) = x5 then ((tile_Width.f x3 ((rd_T26 x4 x7).f0) ((rd_T26 x4 x7).f1)).bind fun t114 => (if x7 > 0 then (if 0 ≤ (wrap64 (x7 - 1)) then (if (wrap64 (x7 - 1)) < (x4.length : Int) then (if ((rd_T26 x4 x7).f0) > ((rd_T26 x4 (wrap64 (x7 - 1))).f0) then (some false) else (if ((rd_T26 x4 x7).f0) = ((rd_T26 x4 (wrap64 (x7 - 1))).f0) then (if ((rd_T26 x4 x7).f1) = (wrap64 (((rd_T26 x4 (wrap64 (x7 - 1))).f1) + 1)) then (annalistlaw07_TileCovers.l1 k x3 x4 x5 (wrap64 (x6 + t114)) (wrap64 (x7 + 1))) else (some false)) else (annalistlaw07_TileCovers.l1 k x3 x4 x5 (wrap64 (x6 + t114)) (wrap64 (x7 + 1))))) else (none)) else (none)) else (annalistlaw07_TileCovers.l1 k x3 x4 x5 (wrap64 (x6 + t114)) (wrap64 (x7 + 1))))) else (if x7 > 0 then (if 0 ≤ (wrap64 (x7 - 1)) then (if (wrap64 (x7 - 1)) < (x4.length : Int) then (if ((rd_T26 x4 x7).f0) > ((rd_T26 x4 (wrap64 (x7 - 1))).f0) then (some false) else (if ((rd_T26 x4 x7).f0) = ((rd_T26 x4 (wrap64 (x7 - 1))).f0) then (if ((rd_T26 x4 x7).f1) = (wrap64 (((rd_T26 x4 (wrap64 (x7 - 1))).f1) + 1)) then (annalistlaw07_TileCovers.l1 k x3 x4 x5 x6 (wrap64 (x7 + 1))) else (some false)) else (annalistlaw07_TileCovers.l1 k x3 x4 x5 x6 (wrap64 (x7 + 1))))) else (none)) else (none)) else (annalistlaw07_TileCovers.l1 k x3 x4 x5 x6 (wrap64 (x7 + 1))))) else (none)) else ((annalistref07_Count.f k x3 x5).bind fun t127 => (if x6 = t127 then ((tile_Count.f x3 x5).bind fun t128 => (if x6 = t128 then (annalistlaw07_TileCovers.l0 k x3 x4 (wrap64 (x5 + 1))) else (some false))) else (some false)))
end
def annalistlaw07_TileCovers.f (k : Nat) (a0 : Int) : Option (Bool) := (annalistlaw07_awake.f).bind fun t108 => (if t108 = true then ((tile_Plan.f (wrap64 (Int.tmod a0 65))).bind fun t109 => (annalistlaw07_TileCovers.l0 k (wrap64 (Int.tmod a0 65)) t109 0)) else (some false))
theorem annalistlaw07_TileCovers.mono_l : ∀ k, (∀ y0 y1 y2, LeO (annalistlaw07_TileCovers.l0 k y0 y1 y2) (annalistlaw07_TileCovers.l0 (k + 1) y0 y1 y2)) ∧ (∀ y0 y1 y2 y3 y4, LeO (annalistlaw07_TileCovers.l1 k y0 y1 y2 y3 y4) (annalistlaw07_TileCovers.l1 (k + 1) y0 y1 y2 y3 y4))
  | 0 => ⟨fun _ _ _ r h => by simp [annalistlaw07_TileCovers.l0] at h, fun _ _ _ _ _ r h => by simp [annalistlaw07_TileCovers.l1] at h⟩
  | k + 1 => by
    obtain ⟨ih0, ih1⟩ := annalistlaw07_TileCovers.mono_l k
    refine ⟨?_, ?_⟩
    · intro y0 y1 y2
      unfold annalistlaw07_TileCovers.l0
      repeat' first
      | (with_reducible exact ih0 _ _ _)
      | (with_reducible exact ih1 _ _ _ _ _)
      | (with_reducible exact annalistref07_Count.mono _ _ _)
      | (with_reducible exact LeO.refl _)
      | (with_reducible exact LeO.none _)
      | (with_reducible refine LeO.ite ?_ ?_)
      | (with_reducible refine LeO.bind ?_ (fun _ => ?_))
      | exact ih0 _ _ _
      | exact ih1 _ _ _ _ _
      | exact annalistref07_Count.mono _ _ _
      | exact LeO.none _
      | refine LeO.ite ?_ ?_
      | refine LeO.bind ?_ (fun _ => ?_)
    · intro y0 y1 y2 y3 y4
      unfold annalistlaw07_TileCovers.l1
      repeat' first
      | (with_reducible exact ih0 _ _ _)
      | (with_reducible exact ih1 _ _ _ _ _)
      | (with_reducible exact annalistref07_Count.mono _ _ _)
      | (with_reducible exact LeO.refl _)
      | (with_reducible exact LeO.none _)
      | (with_reducible refine LeO.ite ?_ ?_)
      | (with_reducible refine LeO.bind ?_ (fun _ => ?_))
      | exact ih0 _ _ _
      | exact ih1 _ _ _ _ _
      | exact annalistref07_Count.mono _ _ _
      | exact LeO.none _
      | refine LeO.ite ?_ ?_
      | refine LeO.bind ?_ (fun _ => ?_)
theorem annalistlaw07_TileCovers.mono : ∀ a0 k, LeO (annalistlaw07_TileCovers.f k a0) (annalistlaw07_TileCovers.f (k + 1) a0) := by
  intro a0 k
  obtain ⟨ih0, ih1⟩ := annalistlaw07_TileCovers.mono_l k
  unfold annalistlaw07_TileCovers.f
  repeat' first
      | (with_reducible exact ih0 _ _ _)
      | (with_reducible exact ih1 _ _ _ _ _)
      | (with_reducible exact annalistref07_Count.mono _ _ _)
      | (with_reducible exact LeO.refl _)
      | (with_reducible exact LeO.none _)
      | (with_reducible refine LeO.ite ?_ ?_)
      | (with_reducible refine LeO.bind ?_ (fun _ => ?_))
      | exact ih0 _ _ _
      | exact ih1 _ _ _ _ _
      | exact annalistref07_Count.mono _ _ _
      | exact LeO.none _
      | refine LeO.ite ?_ ?_
      | refine LeO.bind ?_ (fun _ => ?_)
set_option maxHeartbeats 8000000 in
set_option maxRecDepth 100000 in
theorem annalistlaw07_TileCovers.calls (k : Nat) (a0 : Int) (r : Bool) (w : World) (h : annalistlaw07_TileCovers.f k a0 = some r) :
    Calls Try.prog 3 #[.int .u8 a0] w fun e w' => e = .returned (.bool r) ∧ Below w.heap.size w w' := by
  have hu26 := Try.underlying26
  have HB := Aside0.mk (Below.refl w.heap.size w)
  have H : ((annalistlaw07_awake.f).bind fun t108 => (if t108 = true then ((tile_Plan.f (wrap64 (Int.tmod a0 65))).bind fun t109 => (annalistlaw07_TileCovers.l0 k (wrap64 (Int.tmod a0 65)) t109 0)) else (some false))) = some r := h
  clear h
  replace H := Option.bind_eq_some_iff.mp H
  obtain ⟨t108, A20, H⟩ := H
  replace H : (if t108 = true then ((tile_Plan.f (wrap64 (Int.tmod a0 65))).bind fun t109 => (annalistlaw07_TileCovers.l0 k (wrap64 (Int.tmod a0 65)) t109 0)) else (some false)) = some r := H
  have A2 := Aside0.mk A20
  clear A20
  by_cases c3 : t108 = true
  · subst c3
    have H1 : ((tile_Plan.f (wrap64 (Int.tmod a0 65))).bind fun t109 => (annalistlaw07_TileCovers.l0 k (wrap64 (Int.tmod a0 65)) t109 0)) = some r := by rw [if_pos rfl] at H; exact H
    clear H
    have H := H1
    clear H1
    replace H := Option.bind_eq_some_iff.mp H
    obtain ⟨t109, A40, H⟩ := H
    replace H : (annalistlaw07_TileCovers.l0 k (wrap64 (Int.tmod a0 65)) t109 0) = some r := H
    have A4 := Aside0.mk A40
    clear A40
    have H' := Aside0.mk H
    clear H
    go_enter Try.func3, Try.ntmps3
    go_wp2_with (first | (go_at_call 14; (with_reducible refine (annalistlaw07_awake.calls  true _ A2.out).mono ?_); rintro e w5 ⟨rfl, hb⟩; have n0_ := Aside0.mk (below_step (by repeat (first | (with_reducible first | exact HB.out | apply below_alloc | apply pw_below_drewN | apply below_drew1) | exact HB.out)) hb); clear HB; have HB := n0_; clear n0_; (try clear hb); (try clear hb2); (try clear hk); (try clear hi)) | (go_at_call 15; (with_reducible refine (tile_Plan.calls (wrap64 (Int.tmod a0 65)) t109 _ A4.out).mono ?_); rintro e w6 ⟨v110, rfl, ho0, hb⟩; have n0_ := Aside0.mk (Kd.R_lower ho0 (below_size (by repeat (first | (with_reducible first | exact HB.out | apply below_alloc | apply pw_below_drewN | apply below_drew1) | exact HB.out)))); have n1_ := Aside0.mk (below_step (by repeat (first | (with_reducible first | exact HB.out | apply below_alloc | apply pw_below_drewN | apply below_drew1) | exact HB.out)) hb); clear HB; have HO111 := n0_; have HB := n1_; clear n0_ n1_; (try clear hb); (try clear hb2); (try clear hk); (try clear hi); (try clear ho0)))
    repeat (go_quiet (first | (go_at_call 14; (with_reducible refine (annalistlaw07_awake.calls  true _ A2.out).mono ?_); rintro e w5 ⟨rfl, hb⟩; have n0_ := Aside0.mk (below_step (by repeat (first | (with_reducible first | exact HB.out | apply below_alloc | apply pw_below_drewN | apply below_drew1) | exact HB.out)) hb); clear HB; have HB := n0_; clear n0_; (try clear hb); (try clear hb2); (try clear hk); (try clear hi)) | (go_at_call 15; (with_reducible refine (tile_Plan.calls (wrap64 (Int.tmod a0 65)) t109 _ A4.out).mono ?_); rintro e w6 ⟨v110, rfl, ho0, hb⟩; have n0_ := Aside0.mk (Kd.R_lower ho0 (below_size (by repeat (first | (with_reducible first | exact HB.out | apply below_alloc | apply pw_below_drewN | apply below_drew1) | exact HB.out)))); have n1_ := Aside0.mk (below_step (by repeat (first | (with_reducible first | exact HB.out | apply below_alloc | apply pw_below_drewN | apply below_drew1) | exact HB.out)) hb); clear HB; have HO111 := n0_; have HB := n1_; clear n0_ n1_; (try clear hb); (try clear hb2); (try clear hk); (try clear hi); (try clear ho0))); try go_wp2_with (first | (go_at_call 14; (with_reducible refine (annalistlaw07_awake.calls  true _ A2.out).mono ?_); rintro e w5 ⟨rfl, hb⟩; have n0_ := Aside0.mk (below_step (by repeat (first | (with_reducible first | exact HB.out | apply below_alloc | apply pw_below_drewN | apply below_drew1) | exact HB.out)) hb); clear HB; have HB := n0_; clear n0_; (try clear hb); (try clear hb2); (try clear hk); (try clear hi)) | (go_at_call 15; (with_reducible refine (tile_Plan.calls (wrap64 (Int.tmod a0 65)) t109 _ A4.out).mono ?_); rintro e w6 ⟨v110, rfl, ho0, hb⟩; have n0_ := Aside0.mk (Kd.R_lower ho0 (below_size (by repeat (first | (with_reducible first | exact HB.out | apply below_alloc | apply pw_below_drewN | apply below_drew1) | exact HB.out)))); have n1_ := Aside0.mk (below_step (by repeat (first | (with_reducible first | exact HB.out | apply below_alloc | apply pw_below_drewN | apply below_drew1) | exact HB.out)) hb); clear HB; have HO111 := n0_; have HB := n1_; clear n0_ n1_; (try clear hb); (try clear hb2); (try clear hk); (try clear hi); (try clear ho0))))
    go_loopg [5] k (fun kq v5 w' => ∃ (x5_1 : Int), v5 = .int .i64 x5_1 ∧ Aside0 (annalistlaw07_TileCovers.l0 kq (wrap64 (Int.tmod a0 65)) t109 x5_1 = some r) ∧ Aside0 (kq ≤ k) ∧ Aside0 (Kd.R k26 26 w' w.heap.size (fun _ => True) v110 t109) ∧ Aside0 (Below w.heap.size w w'))
    case atStart => exact ⟨(0), (by first | rfl | (simp; done) | (simp [*]; done)), H', ⟨Nat.le_refl _⟩, ⟨by (with_reducible repeat (first | apply Kd.R_alloc | apply Kd.R_drewN | apply Kd.R_drew)); exact HO111.out⟩, ⟨by repeat (first | (with_reducible first | exact HB.out | apply below_alloc | apply pw_below_drewN | apply below_drew1) | exact HB.out)⟩⟩
    case round =>
      clear H'
      try clear p2
      try clear c3
      try clear p6
      obtain ⟨x5_1, rfl, HA, HK1, HO_4, HB⟩ := hrel
      cases gk with
      | zero => exact absurd HA.out (by simp [annalistlaw07_TileCovers.l0])
      | succ k1 =>
        have H := HA.out
        clear HA
        simp only [annalistlaw07_TileCovers.l0] at H
        by_cases c7 : x5_1 < 5
        · rw [if_pos c7] at H
          have c7b0 : decide (x5_1 < 5) = true := decide_eq_true c7
          clear c7
          have H' := Aside0.mk H
          clear H
          go_wp2
          repeat (go_quiet (fail); try go_wp2)
          go_loopg [6, 7] k1 (fun kq v6 v7 w' => ∃ (x6_2 : Int) (x7_2 : Int), v6 = .int .i64 x6_2 ∧ v7 = .int .i64 x7_2 ∧ Aside0 (annalistlaw07_TileCovers.l1 kq (wrap64 (Int.tmod a0 65)) t109 x5_1 x6_2 x7_2 = some r) ∧ Aside0 (kq ≤ k1) ∧ Aside0 (Kd.R k26 26 w' w.heap.size (fun _ => True) v110 t109) ∧ Aside0 (Below w.heap.size w w'))
          case atStart => exact ⟨(0), (0), (by first | rfl | (simp; done) | (simp [*]; done)), (by first | rfl | (simp; done) | (simp [*]; done)), H', ⟨Nat.le_refl _⟩, ⟨by (with_reducible repeat (first | apply Kd.R_alloc | apply Kd.R_drewN | apply Kd.R_drew)); exact HO_4.out⟩, ⟨by repeat (first | (with_reducible first | exact HB.out | apply below_alloc | apply pw_below_drewN | apply below_drew1) | exact HB.out)⟩⟩
          case round =>
            clear H'
            try clear p2
            try clear c3
            try clear p6
            try clear c7
            try clear c7b0
            try clear p2
            try clear p6
            obtain ⟨x6_2, x7_2, rfl, rfl, HA, HK2, HO_4, HB⟩ := hrel
            cases gk with
            | zero => exact absurd HA.out (by simp [annalistlaw07_TileCovers.l1])
            | succ k2 =>
              have H := HA.out
              clear HA
              simp only [annalistlaw07_TileCovers.l1] at H
              by_cases c8 : x7_2 < (t109.length : Int)
              · rw [if_pos c8] at H
                have c8b0 : decide (x7_2 < (t109.length : Int)) = true := decide_eq_true c8
                clear c8
                by_cases c9 : 0 ≤ x7_2
                · rw [if_pos c9] at H
                  have c9b0 : decide (0 ≤ x7_2) = true := decide_eq_true c9
                  clear c9
                  by_cases c10 : ((rd_T26 t109 x7_2).f0) = x5_1
                  · rw [if_pos c10] at H
                    have c10b0 : (((rd_T26 t109 x7_2).f0) == x5_1) = true := beq_iff_eq.mpr c10
                    have c10b1 : (((rd_T26 t109 x7_2).f0) != x5_1) = false := bne_eq_false_iff_eq.mpr c10
                    clear c10
                    replace H := Option.bind_eq_some_iff.mp H
                    obtain ⟨t114, A110, H⟩ := H
                    replace H : (if x7_2 > 0 then (if 0 ≤ (wrap64 (x7_2 - 1)) then (if (wrap64 (x7_2 - 1)) < (t109.length : Int) then (if ((rd_T26 t109 x7_2).f0) > ((rd_T26 t109 (wrap64 (x7_2 - 1))).f0) then (some false) else (if ((rd_T26 t109 x7_2).f0) = ((rd_T26 t109 (wrap64 (x7_2 - 1))).f0) then (if ((rd_T26 t109 x7_2).f1) = (wrap64 (((rd_T26 t109 (wrap64 (x7_2 - 1))).f1) + 1)) then (annalistlaw07_TileCovers.l1 k2 (wrap64 (Int.tmod a0 65)) t109 x5_1 (wrap64 (x6_2 + t114)) (wrap64 (x7_2 + 1))) else (some false)) else (annalistlaw07_TileCovers.l1 k2 (wrap64 (Int.tmod a0 65)) t109 x5_1 (wrap64 (x6_2 + t114)) (wrap64 (x7_2 + 1))))) else (none)) else (none)) else (annalistlaw07_TileCovers.l1 k2 (wrap64 (Int.tmod a0 65)) t109 x5_1 (wrap64 (x6_2 + t114)) (wrap64 (x7_2 + 1)))) = some r := H
                    have A11 := Aside0.mk A110
                    clear A110
                    by_cases c12 : x7_2 > 0
                    · rw [if_pos c12] at H
                      have c12b0 : decide (0 < x7_2) = true := decide_eq_true c12
                      clear c12
                      obtain ⟨ji13, hji13⟩ : ∃ j_ : Int, (wrap64 (x7_2 - 1)) = j_ := ⟨_, rfl⟩
                      replace H : (if 0 ≤ (ji13) then (if (ji13) < (t109.length : Int) then (if ((rd_T26 t109 x7_2).f0) > ((rd_T26 t109 (ji13)).f0) then (some false) else (if ((rd_T26 t109 x7_2).f0) = ((rd_T26 t109 (ji13)).f0) then (if ((rd_T26 t109 x7_2).f1) = (wrap64 (((rd_T26 t109 (ji13)).f1) + 1)) then (annalistlaw07_TileCovers.l1 k2 (wrap64 (Int.tmod a0 65)) t109 x5_1 (wrap64 (x6_2 + t114)) (wrap64 (x7_2 + 1))) else (some false)) else (annalistlaw07_TileCovers.l1 k2 (wrap64 (Int.tmod a0 65)) t109 x5_1 (wrap64 (x6_2 + t114)) (wrap64 (x7_2 + 1))))) else (none)) else (none)) = some r := by first | (rw [hji13] at H; exact H) | (simp only [hji13] at H ⊢; exact H)
                      (try rw [hji13] at A11)
                      have hji13w : (IntKind.i64.wrap (x7_2 - 1)) = ji13 := (i64_w _).trans hji13
                      by_cases c14 : 0 ≤ (ji13)
                      · rw [if_pos c14] at H
                        have c14b0 : decide (0 ≤ (ji13)) = true := decide_eq_true c14
                        clear c14
                        by_cases c15 : (ji13) < (t109.length : Int)
                        · rw [if_pos c15] at H
                          have c15b0 : decide ((ji13) < (t109.length : Int)) = true := decide_eq_true c15
                          clear c15
                          by_cases c16 : ((rd_T26 t109 x7_2).f0) > ((rd_T26 t109 (ji13)).f0)
                          · rw [if_pos c16] at H
                            have c16b0 : decide (((rd_T26 t109 (ji13)).f0) < ((rd_T26 t109 x7_2).f0)) = true := decide_eq_true c16
                            clear c16
                            obtain rfl := Option.some.inj H
                            obtain ⟨Ao17, co17, eo17⟩ := Kd.R_slice HO_4.out
                            subst eo17
                            have p112 : 0 ≤ (x7_2 : Int) := of_decide_eq_true (by first | (with_reducible assumption) | assumption)
                            have q112 : x7_2 < (t109.length : Int) := of_decide_eq_true (by first | (with_reducible assumption) | assumption)
                            obtain ⟨ad112, e112, hx112_0, hx112_1⟩ := at_T26 (Kd.R_reads' HO_4.out).2.2 x7_2 p112 q112
                            cases e112
                            replace p112 := eq_true p112
                            replace q112 := eq_true q112
                            have p113 : 0 ≤ (x7_2 : Int) := of_decide_eq_true (by first | (with_reducible assumption) | assumption)
                            have q113 : x7_2 < (t109.length : Int) := of_decide_eq_true (by first | (with_reducible assumption) | assumption)
                            obtain ⟨ad113, e113, hx113_0, hx113_1⟩ := at_T26 (Kd.R_reads' HO_4.out).2.2 x7_2 p113 q113
                            obtain rfl : ad112 = ad113 := (by injection e113)
                            replace p113 := eq_true p113
                            replace q113 := eq_true q113
                            go_wp2_with (first | (go_at_call 16; (with_reducible refine (tile_Width.calls (wrap64 (Int.tmod a0 65)) ((rd_T26 t109 x7_2).f0) ((rd_T26 t109 x7_2).f1) t114 _ A11.out).mono ?_); rintro e w18 ⟨rfl, hb⟩; have n0_ := Aside0.mk (Kd.R_below (by (with_reducible repeat (first | apply Kd.R_alloc | apply Kd.R_drewN | apply Kd.R_drew)); exact HO_4.out) hb); have n1_ := Aside0.mk (below_step (by repeat (first | (with_reducible first | exact HB.out | apply below_alloc | apply pw_below_drewN | apply below_drew1) | exact HB.out)) hb); clear HO_4; clear HB; have HO_4 := n0_; have HB := n1_; clear n0_ n1_; (try clear hb); (try clear hb2); (try clear hk); (try clear hi); have p115 : 0 ≤ (x7_2 : Int) := of_decide_eq_true (by first | (with_reducible assumption) | assumption); have q115 : x7_2 < (t109.length : Int) := of_decide_eq_true (by first | (with_reducible assumption) | assumption); obtain ⟨ad115, e115, hx115_0, hx115_1⟩ := at_T26 (Kd.R_reads' HO_4.out).2.2 x7_2 p115 q115; obtain rfl : ad112 = ad115 := (by injection e115); replace p115 := eq_true p115; replace q115 := eq_true q115; have p116 : 0 ≤ ((ji13) : Int) := of_decide_eq_true (by first | (with_reducible assumption) | assumption); have q116 : (ji13) < (t109.length : Int) := of_decide_eq_true (by first | (with_reducible assumption) | assumption); obtain ⟨ad116, e116, hx116_0, hx116_1⟩ := at_T26 (Kd.R_reads' HO_4.out).2.2 (ji13) p116 q116; obtain rfl : ad112 = ad116 := (by injection e116); replace p116 := eq_true p116; replace q116 := eq_true q116))
                            repeat (go_quiet (first | (go_at_call 16; (with_reducible refine (tile_Width.calls (wrap64 (Int.tmod a0 65)) ((rd_T26 t109 x7_2).f0) ((rd_T26 t109 x7_2).f1) t114 _ A11.out).mono ?_); rintro e w18 ⟨rfl, hb⟩; have n0_ := Aside0.mk (Kd.R_below (by (with_reducible repeat (first | apply Kd.R_alloc | apply Kd.R_drewN | apply Kd.R_drew)); exact HO_4.out) hb); have n1_ := Aside0.mk (below_step (by repeat (first | (with_reducible first | exact HB.out | apply below_alloc | apply pw_below_drewN | apply below_drew1) | exact HB.out)) hb); clear HO_4; clear HB; have HO_4 := n0_; have HB := n1_; clear n0_ n1_; (try clear hb); (try clear hb2); (try clear hk); (try clear hi); have p115 : 0 ≤ (x7_2 : Int) := of_decide_eq_true (by first | (with_reducible assumption) | assumption); have q115 : x7_2 < (t109.length : Int) := of_decide_eq_true (by first | (with_reducible assumption) | assumption); obtain ⟨ad115, e115, hx115_0, hx115_1⟩ := at_T26 (Kd.R_reads' HO_4.out).2.2 x7_2 p115 q115; obtain rfl : ad112 = ad115 := (by injection e115); replace p115 := eq_true p115; replace q115 := eq_true q115; have p116 : 0 ≤ ((ji13) : Int) := of_decide_eq_true (by first | (with_reducible assumption) | assumption); have q116 : (ji13) < (t109.length : Int) := of_decide_eq_true (by first | (with_reducible assumption) | assumption); obtain ⟨ad116, e116, hx116_0, hx116_1⟩ := at_T26 (Kd.R_reads' HO_4.out).2.2 (ji13) p116 q116; obtain rfl : ad112 = ad116 := (by injection e116); replace p116 := eq_true p116; replace q116 := eq_true q116)); try go_wp2_with (first | (go_at_call 16; (with_reducible refine (tile_Width.calls (wrap64 (Int.tmod a0 65)) ((rd_T26 t109 x7_2).f0) ((rd_T26 t109 x7_2).f1) t114 _ A11.out).mono ?_); rintro e w18 ⟨rfl, hb⟩; have n0_ := Aside0.mk (Kd.R_below (by (with_reducible repeat (first | apply Kd.R_alloc | apply Kd.R_drewN | apply Kd.R_drew)); exact HO_4.out) hb); have n1_ := Aside0.mk (below_step (by repeat (first | (with_reducible first | exact HB.out | apply below_alloc | apply pw_below_drewN | apply below_drew1) | exact HB.out)) hb); clear HO_4; clear HB; have HO_4 := n0_; have HB := n1_; clear n0_ n1_; (try clear hb); (try clear hb2); (try clear hk); (try clear hi); have p115 : 0 ≤ (x7_2 : Int) := of_decide_eq_true (by first | (with_reducible assumption) | assumption); have q115 : x7_2 < (t109.length : Int) := of_decide_eq_true (by first | (with_reducible assumption) | assumption); obtain ⟨ad115, e115, hx115_0, hx115_1⟩ := at_T26 (Kd.R_reads' HO_4.out).2.2 x7_2 p115 q115; obtain rfl : ad112 = ad115 := (by injection e115); replace p115 := eq_true p115; replace q115 := eq_true q115; have p116 : 0 ≤ ((ji13) : Int) := of_decide_eq_true (by first | (with_reducible assumption) | assumption); have q116 : (ji13) < (t109.length : Int) := of_decide_eq_true (by first | (with_reducible assumption) | assumption); obtain ⟨ad116, e116, hx116_0, hx116_1⟩ := at_T26 (Kd.R_reads' HO_4.out).2.2 (ji13) p116 q116; obtain rfl : ad112 = ad116 := (by injection e116); replace p116 := eq_true p116; replace q116 := eq_true q116)))
                            go_ret
                            exact ⟨by first | rfl | (simp [errW_none, errW_some] <;> rfl) | (simp only [← hji13]; first | rfl | (simp [errW_none, errW_some] <;> rfl)) | (simp [*, errW_none, errW_some] <;> rfl), by repeat (first | (with_reducible first | exact HB.out | apply below_alloc | apply pw_below_drewN | apply below_drew1) | exact HB.out)⟩
                          · rw [if_neg c16] at H
                            have c16b0 : decide (((rd_T26 t109 (ji13)).f0) < ((rd_T26 t109 x7_2).f0)) = false := decide_eq_false c16
                            clear c16
                            by_cases c19 : ((rd_T26 t109 x7_2).f0) = ((rd_T26 t109 (ji13)).f0)
                            · rw [if_pos c19] at H
                              have c19b0 : (((rd_T26 t109 x7_2).f0) == ((rd_T26 t109 (ji13)).f0)) = true := beq_iff_eq.mpr c19
                              have c19b1 : (((rd_T26 t109 x7_2).f0) != ((rd_T26 t109 (ji13)).f0)) = false := bne_eq_false_iff_eq.mpr c19
                              clear c19
                              by_cases c20 : ((rd_T26 t109 x7_2).f1) = (wrap64 (((rd_T26 t109 (ji13)).f1) + 1))
                              · rw [if_pos c20] at H
                                have c20b0 : (((rd_T26 t109 x7_2).f1) == (wrap64 (((rd_T26 t109 (ji13)).f1) + 1))) = true := beq_iff_eq.mpr c20
                                have c20b1 : (((rd_T26 t109 x7_2).f1) != (wrap64 (((rd_T26 t109 (ji13)).f1) + 1))) = false := bne_eq_false_iff_eq.mpr c20
                                clear c20
                                have H' := Aside0.mk H
                                clear H
                                obtain ⟨Ao21, co21, eo21⟩ := Kd.R_slice HO_4.out
                                subst eo21
                                have p112 : 0 ≤ (x7_2 : Int) := of_decide_eq_true (by first | (with_reducible assumption) | assumption)
                                have q112 : x7_2 < (t109.length : Int) := of_decide_eq_true (by first | (with_reducible assumption) | assumption)
                                obtain ⟨ad112, e112, hx112_0, hx112_1⟩ := at_T26 (Kd.R_reads' HO_4.out).2.2 x7_2 p112 q112
                                cases e112
                                replace p112 := eq_true p112
                                replace q112 := eq_true q112
                                have p113 : 0 ≤ (x7_2 : Int) := of_decide_eq_true (by first | (with_reducible assumption) | assumption)
                                have q113 : x7_2 < (t109.length : Int) := of_decide_eq_true (by first | (with_reducible assumption) | assumption)
                                obtain ⟨ad113, e113, hx113_0, hx113_1⟩ := at_T26 (Kd.R_reads' HO_4.out).2.2 x7_2 p113 q113
                                obtain rfl : ad112 = ad113 := (by injection e113)
                                replace p113 := eq_true p113
                                replace q113 := eq_true q113
                                go_wp2_with (first | (go_at_call 16; (with_reducible refine (tile_Width.calls (wrap64 (Int.tmod a0 65)) ((rd_T26 t109 x7_2).f0) ((rd_T26 t109 x7_2).f1) t114 _ A11.out).mono ?_); rintro e w22 ⟨rfl, hb⟩; have n0_ := Aside0.mk (Kd.R_below (by (with_reducible repeat (first | apply Kd.R_alloc | apply Kd.R_drewN | apply Kd.R_drew)); exact HO_4.out) hb); have n1_ := Aside0.mk (below_step (by repeat (first | (with_reducible first | exact HB.out | apply below_alloc | apply pw_below_drewN | apply below_drew1) | exact HB.out)) hb); clear HO_4; clear HB; have HO_4 := n0_; have HB := n1_; clear n0_ n1_; (try clear hb); (try clear hb2); (try clear hk); (try clear hi); have p115 : 0 ≤ (x7_2 : Int) := of_decide_eq_true (by first | (with_reducible assumption) | assumption); have q115 : x7_2 < (t109.length : Int) := of_decide_eq_true (by first | (with_reducible assumption) | assumption); obtain ⟨ad115, e115, hx115_0, hx115_1⟩ := at_T26 (Kd.R_reads' HO_4.out).2.2 x7_2 p115 q115; obtain rfl : ad112 = ad115 := (by injection e115); replace p115 := eq_true p115; replace q115 := eq_true q115; have p116 : 0 ≤ ((ji13) : Int) := of_decide_eq_true (by first | (with_reducible assumption) | assumption); have q116 : (ji13) < (t109.length : Int) := of_decide_eq_true (by first | (with_reducible assumption) | assumption); obtain ⟨ad116, e116, hx116_0, hx116_1⟩ := at_T26 (Kd.R_reads' HO_4.out).2.2 (ji13) p116 q116; obtain rfl : ad112 = ad116 := (by injection e116); replace p116 := eq_true p116; replace q116 := eq_true q116; have p117 : 0 ≤ (x7_2 : Int) := of_decide_eq_true (by first | (with_reducible assumption) | assumption); have q117 : x7_2 < (t109.length : Int) := of_decide_eq_true (by first | (with_reducible assumption) | assumption); obtain ⟨ad117, e117, hx117_0, hx117_1⟩ := at_T26 (Kd.R_reads' HO_4.out).2.2 x7_2 p117 q117; obtain rfl : ad112 = ad117 := (by injection e117); replace p117 := eq_true p117; replace q117 := eq_true q117; have p118 : 0 ≤ ((ji13) : Int) := of_decide_eq_true (by first | (with_reducible assumption) | assumption); have q118 : (ji13) < (t109.length : Int) := of_decide_eq_true (by first | (with_reducible assumption) | assumption); obtain ⟨ad118, e118, hx118_0, hx118_1⟩ := at_T26 (Kd.R_reads' HO_4.out).2.2 (ji13) p118 q118; obtain rfl : ad112 = ad118 := (by injection e118); replace p118 := eq_true p118; replace q118 := eq_true q118; have p119 : 0 ≤ (x7_2 : Int) := of_decide_eq_true (by first | (with_reducible assumption) | assumption); have q119 : x7_2 < (t109.length : Int) := of_decide_eq_true (by first | (with_reducible assumption) | assumption); obtain ⟨ad119, e119, hx119_0, hx119_1⟩ := at_T26 (Kd.R_reads' HO_4.out).2.2 x7_2 p119 q119; obtain rfl : ad112 = ad119 := (by injection e119); replace p119 := eq_true p119; replace q119 := eq_true q119; have p120 : 0 ≤ ((ji13) : Int) := of_decide_eq_true (by first | (with_reducible assumption) | assumption); have q120 : (ji13) < (t109.length : Int) := of_decide_eq_true (by first | (with_reducible assumption) | assumption); obtain ⟨ad120, e120, hx120_0, hx120_1⟩ := at_T26 (Kd.R_reads' HO_4.out).2.2 (ji13) p120 q120; obtain rfl : ad112 = ad120 := (by injection e120); replace p120 := eq_true p120; replace q120 := eq_true q120))
                                repeat (go_quiet (first | (go_at_call 16; (with_reducible refine (tile_Width.calls (wrap64 (Int.tmod a0 65)) ((rd_T26 t109 x7_2).f0) ((rd_T26 t109 x7_2).f1) t114 _ A11.out).mono ?_); rintro e w22 ⟨rfl, hb⟩; have n0_ := Aside0.mk (Kd.R_below (by (with_reducible repeat (first | apply Kd.R_alloc | apply Kd.R_drewN | apply Kd.R_drew)); exact HO_4.out) hb); have n1_ := Aside0.mk (below_step (by repeat (first | (with_reducible first | exact HB.out | apply below_alloc | apply pw_below_drewN | apply below_drew1) | exact HB.out)) hb); clear HO_4; clear HB; have HO_4 := n0_; have HB := n1_; clear n0_ n1_; (try clear hb); (try clear hb2); (try clear hk); (try clear hi); have p115 : 0 ≤ (x7_2 : Int) := of_decide_eq_true (by first | (with_reducible assumption) | assumption); have q115 : x7_2 < (t109.length : Int) := of_decide_eq_true (by first | (with_reducible assumption) | assumption); obtain ⟨ad115, e115, hx115_0, hx115_1⟩ := at_T26 (Kd.R_reads' HO_4.out).2.2 x7_2 p115 q115; obtain rfl : ad112 = ad115 := (by injection e115); replace p115 := eq_true p115; replace q115 := eq_true q115; have p116 : 0 ≤ ((ji13) : Int) := of_decide_eq_true (by first | (with_reducible assumption) | assumption); have q116 : (ji13) < (t109.length : Int) := of_decide_eq_true (by first | (with_reducible assumption) | assumption); obtain ⟨ad116, e116, hx116_0, hx116_1⟩ := at_T26 (Kd.R_reads' HO_4.out).2.2 (ji13) p116 q116; obtain rfl : ad112 = ad116 := (by injection e116); replace p116 := eq_true p116; replace q116 := eq_true q116; have p117 : 0 ≤ (x7_2 : Int) := of_decide_eq_true (by first | (with_reducible assumption) | assumption); have q117 : x7_2 < (t109.length : Int) := of_decide_eq_true (by first | (with_reducible assumption) | assumption); obtain ⟨ad117, e117, hx117_0, hx117_1⟩ := at_T26 (Kd.R_reads' HO_4.out).2.2 x7_2 p117 q117; obtain rfl : ad112 = ad117 := (by injection e117); replace p117 := eq_true p117; replace q117 := eq_true q117; have p118 : 0 ≤ ((ji13) : Int) := of_decide_eq_true (by first | (with_reducible assumption) | assumption); have q118 : (ji13) < (t109.length : Int) := of_decide_eq_true (by first | (with_reducible assumption) | assumption); obtain ⟨ad118, e118, hx118_0, hx118_1⟩ := at_T26 (Kd.R_reads' HO_4.out).2.2 (ji13) p118 q118; obtain rfl : ad112 = ad118 := (by injection e118); replace p118 := eq_true p118; replace q118 := eq_true q118; have p119 : 0 ≤ (x7_2 : Int) := of_decide_eq_true (by first | (with_reducible assumption) | assumption); have q119 : x7_2 < (t109.length : Int) := of_decide_eq_true (by first | (with_reducible assumption) | assumption); obtain ⟨ad119, e119, hx119_0, hx119_1⟩ := at_T26 (Kd.R_reads' HO_4.out).2.2 x7_2 p119 q119; obtain rfl : ad112 = ad119 := (by injection e119); replace p119 := eq_true p119; replace q119 := eq_true q119; have p120 : 0 ≤ ((ji13) : Int) := of_decide_eq_true (by first | (with_reducible assumption) | assumption); have q120 : (ji13) < (t109.length : Int) := of_decide_eq_true (by first | (with_reducible assumption) | assumption); obtain ⟨ad120, e120, hx120_0, hx120_1⟩ := at_T26 (Kd.R_reads' HO_4.out).2.2 (ji13) p120 q120; obtain rfl : ad112 = ad120 := (by injection e120); replace p120 := eq_true p120; replace q120 := eq_true q120)); try go_wp2_with (first | (go_at_call 16; (with_reducible refine (tile_Width.calls (wrap64 (Int.tmod a0 65)) ((rd_T26 t109 x7_2).f0) ((rd_T26 t109 x7_2).f1) t114 _ A11.out).mono ?_); rintro e w22 ⟨rfl, hb⟩; have n0_ := Aside0.mk (Kd.R_below (by (with_reducible repeat (first | apply Kd.R_alloc | apply Kd.R_drewN | apply Kd.R_drew)); exact HO_4.out) hb); have n1_ := Aside0.mk (below_step (by repeat (first | (with_reducible first | exact HB.out | apply below_alloc | apply pw_below_drewN | apply below_drew1) | exact HB.out)) hb); clear HO_4; clear HB; have HO_4 := n0_; have HB := n1_; clear n0_ n1_; (try clear hb); (try clear hb2); (try clear hk); (try clear hi); have p115 : 0 ≤ (x7_2 : Int) := of_decide_eq_true (by first | (with_reducible assumption) | assumption); have q115 : x7_2 < (t109.length : Int) := of_decide_eq_true (by first | (with_reducible assumption) | assumption); obtain ⟨ad115, e115, hx115_0, hx115_1⟩ := at_T26 (Kd.R_reads' HO_4.out).2.2 x7_2 p115 q115; obtain rfl : ad112 = ad115 := (by injection e115); replace p115 := eq_true p115; replace q115 := eq_true q115; have p116 : 0 ≤ ((ji13) : Int) := of_decide_eq_true (by first | (with_reducible assumption) | assumption); have q116 : (ji13) < (t109.length : Int) := of_decide_eq_true (by first | (with_reducible assumption) | assumption); obtain ⟨ad116, e116, hx116_0, hx116_1⟩ := at_T26 (Kd.R_reads' HO_4.out).2.2 (ji13) p116 q116; obtain rfl : ad112 = ad116 := (by injection e116); replace p116 := eq_true p116; replace q116 := eq_true q116; have p117 : 0 ≤ (x7_2 : Int) := of_decide_eq_true (by first | (with_reducible assumption) | assumption); have q117 : x7_2 < (t109.length : Int) := of_decide_eq_true (by first | (with_reducible assumption) | assumption); obtain ⟨ad117, e117, hx117_0, hx117_1⟩ := at_T26 (Kd.R_reads' HO_4.out).2.2 x7_2 p117 q117; obtain rfl : ad112 = ad117 := (by injection e117); replace p117 := eq_true p117; replace q117 := eq_true q117; have p118 : 0 ≤ ((ji13) : Int) := of_decide_eq_true (by first | (with_reducible assumption) | assumption); have q118 : (ji13) < (t109.length : Int) := of_decide_eq_true (by first | (with_reducible assumption) | assumption); obtain ⟨ad118, e118, hx118_0, hx118_1⟩ := at_T26 (Kd.R_reads' HO_4.out).2.2 (ji13) p118 q118; obtain rfl : ad112 = ad118 := (by injection e118); replace p118 := eq_true p118; replace q118 := eq_true q118; have p119 : 0 ≤ (x7_2 : Int) := of_decide_eq_true (by first | (with_reducible assumption) | assumption); have q119 : x7_2 < (t109.length : Int) := of_decide_eq_true (by first | (with_reducible assumption) | assumption); obtain ⟨ad119, e119, hx119_0, hx119_1⟩ := at_T26 (Kd.R_reads' HO_4.out).2.2 x7_2 p119 q119; obtain rfl : ad112 = ad119 := (by injection e119); replace p119 := eq_true p119; replace q119 := eq_true q119; have p120 : 0 ≤ ((ji13) : Int) := of_decide_eq_true (by first | (with_reducible assumption) | assumption); have q120 : (ji13) < (t109.length : Int) := of_decide_eq_true (by first | (with_reducible assumption) | assumption); obtain ⟨ad120, e120, hx120_0, hx120_1⟩ := at_T26 (Kd.R_reads' HO_4.out).2.2 (ji13) p120 q120; obtain rfl : ad112 = ad120 := (by injection e120); replace p120 := eq_true p120; replace q120 := eq_true q120)))
                                go_roundg k2
                                case measure => have := HK1.out; have := HK2.out; omega
                                case rel => exact ⟨(wrap64 (x6_2 + t114)), (wrap64 (x7_2 + 1)), (by first | rfl | (simp; done) | (simp [*]; done)), (by first | rfl | (simp; done) | (simp [*]; done)), H', ⟨by have := HK1.out; have := HK2.out; omega⟩, ⟨by (with_reducible repeat (first | apply Kd.R_alloc | apply Kd.R_drewN | apply Kd.R_drew)); exact HO_4.out⟩, ⟨by repeat (first | (with_reducible first | exact HB.out | apply below_alloc | apply pw_below_drewN | apply below_drew1) | exact HB.out)⟩⟩
                              · rw [if_neg c20] at H
                                have c20b0 : (((rd_T26 t109 x7_2).f1) == (wrap64 (((rd_T26 t109 (ji13)).f1) + 1))) = false := beq_eq_false_iff_ne.mpr c20
                                have c20b1 : (((rd_T26 t109 x7_2).f1) != (wrap64 (((rd_T26 t109 (ji13)).f1) + 1))) = true := bne_iff_ne.mpr c20
                                obtain rfl := Option.some.inj H
                                obtain ⟨Ao23, co23, eo23⟩ := Kd.R_slice HO_4.out
                                subst eo23
                                have p112 : 0 ≤ (x7_2 : Int) := of_decide_eq_true (by first | (with_reducible assumption) | assumption)
                                have q112 : x7_2 < (t109.length : Int) := of_decide_eq_true (by first | (with_reducible assumption) | assumption)
                                obtain ⟨ad112, e112, hx112_0, hx112_1⟩ := at_T26 (Kd.R_reads' HO_4.out).2.2 x7_2 p112 q112
                                cases e112
                                replace p112 := eq_true p112
                                replace q112 := eq_true q112
                                have p113 : 0 ≤ (x7_2 : Int) := of_decide_eq_true (by first | (with_reducible assumption) | assumption)
                                have q113 : x7_2 < (t109.length : Int) := of_decide_eq_true (by first | (with_reducible assumption) | assumption)
                                obtain ⟨ad113, e113, hx113_0, hx113_1⟩ := at_T26 (Kd.R_reads' HO_4.out).2.2 x7_2 p113 q113
                                obtain rfl : ad112 = ad113 := (by injection e113)
                                replace p113 := eq_true p113
                                replace q113 := eq_true q113
                                go_wp2_with (first | (go_at_call 16; (with_reducible refine (tile_Width.calls (wrap64 (Int.tmod a0 65)) ((rd_T26 t109 x7_2).f0) ((rd_T26 t109 x7_2).f1) t114 _ A11.out).mono ?_); rintro e w24 ⟨rfl, hb⟩; have n0_ := Aside0.mk (Kd.R_below (by (with_reducible repeat (first | apply Kd.R_alloc | apply Kd.R_drewN | apply Kd.R_drew)); exact HO_4.out) hb); have n1_ := Aside0.mk (below_step (by repeat (first | (with_reducible first | exact HB.out | apply below_alloc | apply pw_below_drewN | apply below_drew1) | exact HB.out)) hb); clear HO_4; clear HB; have HO_4 := n0_; have HB := n1_; clear n0_ n1_; (try clear hb); (try clear hb2); (try clear hk); (try clear hi); have p115 : 0 ≤ (x7_2 : Int) := of_decide_eq_true (by first | (with_reducible assumption) | assumption); have q115 : x7_2 < (t109.length : Int) := of_decide_eq_true (by first | (with_reducible assumption) | assumption); obtain ⟨ad115, e115, hx115_0, hx115_1⟩ := at_T26 (Kd.R_reads' HO_4.out).2.2 x7_2 p115 q115; obtain rfl : ad112 = ad115 := (by injection e115); replace p115 := eq_true p115; replace q115 := eq_true q115; have p116 : 0 ≤ ((ji13) : Int) := of_decide_eq_true (by first | (with_reducible assumption) | assumption); have q116 : (ji13) < (t109.length : Int) := of_decide_eq_true (by first | (with_reducible assumption) | assumption); obtain ⟨ad116, e116, hx116_0, hx116_1⟩ := at_T26 (Kd.R_reads' HO_4.out).2.2 (ji13) p116 q116; obtain rfl : ad112 = ad116 := (by injection e116); replace p116 := eq_true p116; replace q116 := eq_true q116; have p117 : 0 ≤ (x7_2 : Int) := of_decide_eq_true (by first | (with_reducible assumption) | assumption); have q117 : x7_2 < (t109.length : Int) := of_decide_eq_true (by first | (with_reducible assumption) | assumption); obtain ⟨ad117, e117, hx117_0, hx117_1⟩ := at_T26 (Kd.R_reads' HO_4.out).2.2 x7_2 p117 q117; obtain rfl : ad112 = ad117 := (by injection e117); replace p117 := eq_true p117; replace q117 := eq_true q117; have p118 : 0 ≤ ((ji13) : Int) := of_decide_eq_true (by first | (with_reducible assumption) | assumption); have q118 : (ji13) < (t109.length : Int) := of_decide_eq_true (by first | (with_reducible assumption) | assumption); obtain ⟨ad118, e118, hx118_0, hx118_1⟩ := at_T26 (Kd.R_reads' HO_4.out).2.2 (ji13) p118 q118; obtain rfl : ad112 = ad118 := (by injection e118); replace p118 := eq_true p118; replace q118 := eq_true q118; have p119 : 0 ≤ (x7_2 : Int) := of_decide_eq_true (by first | (with_reducible assumption) | assumption); have q119 : x7_2 < (t109.length : Int) := of_decide_eq_true (by first | (with_reducible assumption) | assumption); obtain ⟨ad119, e119, hx119_0, hx119_1⟩ := at_T26 (Kd.R_reads' HO_4.out).2.2 x7_2 p119 q119; obtain rfl : ad112 = ad119 := (by injection e119); replace p119 := eq_true p119; replace q119 := eq_true q119; have p120 : 0 ≤ ((ji13) : Int) := of_decide_eq_true (by first | (with_reducible assumption) | assumption); have q120 : (ji13) < (t109.length : Int) := of_decide_eq_true (by first | (with_reducible assumption) | assumption); obtain ⟨ad120, e120, hx120_0, hx120_1⟩ := at_T26 (Kd.R_reads' HO_4.out).2.2 (ji13) p120 q120; obtain rfl : ad112 = ad120 := (by injection e120); replace p120 := eq_true p120; replace q120 := eq_true q120))
                                repeat (go_quiet (first | (go_at_call 16; (with_reducible refine (tile_Width.calls (wrap64 (Int.tmod a0 65)) ((rd_T26 t109 x7_2).f0) ((rd_T26 t109 x7_2).f1) t114 _ A11.out).mono ?_); rintro e w24 ⟨rfl, hb⟩; have n0_ := Aside0.mk (Kd.R_below (by (with_reducible repeat (first | apply Kd.R_alloc | apply Kd.R_drewN | apply Kd.R_drew)); exact HO_4.out) hb); have n1_ := Aside0.mk (below_step (by repeat (first | (with_reducible first | exact HB.out | apply below_alloc | apply pw_below_drewN | apply below_drew1) | exact HB.out)) hb); clear HO_4; clear HB; have HO_4 := n0_; have HB := n1_; clear n0_ n1_; (try clear hb); (try clear hb2); (try clear hk); (try clear hi); have p115 : 0 ≤ (x7_2 : Int) := of_decide_eq_true (by first | (with_reducible assumption) | assumption); have q115 : x7_2 < (t109.length : Int) := of_decide_eq_true (by first | (with_reducible assumption) | assumption); obtain ⟨ad115, e115, hx115_0, hx115_1⟩ := at_T26 (Kd.R_reads' HO_4.out).2.2 x7_2 p115 q115; obtain rfl : ad112 = ad115 := (by injection e115); replace p115 := eq_true p115; replace q115 := eq_true q115; have p116 : 0 ≤ ((ji13) : Int) := of_decide_eq_true (by first | (with_reducible assumption) | assumption); have q116 : (ji13) < (t109.length : Int) := of_decide_eq_true (by first | (with_reducible assumption) | assumption); obtain ⟨ad116, e116, hx116_0, hx116_1⟩ := at_T26 (Kd.R_reads' HO_4.out).2.2 (ji13) p116 q116; obtain rfl : ad112 = ad116 := (by injection e116); replace p116 := eq_true p116; replace q116 := eq_true q116; have p117 : 0 ≤ (x7_2 : Int) := of_decide_eq_true (by first | (with_reducible assumption) | assumption); have q117 : x7_2 < (t109.length : Int) := of_decide_eq_true (by first | (with_reducible assumption) | assumption); obtain ⟨ad117, e117, hx117_0, hx117_1⟩ := at_T26 (Kd.R_reads' HO_4.out).2.2 x7_2 p117 q117; obtain rfl : ad112 = ad117 := (by injection e117); replace p117 := eq_true p117; replace q117 := eq_true q117; have p118 : 0 ≤ ((ji13) : Int) := of_decide_eq_true (by first | (with_reducible assumption) | assumption); have q118 : (ji13) < (t109.length : Int) := of_decide_eq_true (by first | (with_reducible assumption) | assumption); obtain ⟨ad118, e118, hx118_0, hx118_1⟩ := at_T26 (Kd.R_reads' HO_4.out).2.2 (ji13) p118 q118; obtain rfl : ad112 = ad118 := (by injection e118); replace p118 := eq_true p118; replace q118 := eq_true q118; have p119 : 0 ≤ (x7_2 : Int) := of_decide_eq_true (by first | (with_reducible assumption) | assumption); have q119 : x7_2 < (t109.length : Int) := of_decide_eq_true (by first | (with_reducible assumption) | assumption); obtain ⟨ad119, e119, hx119_0, hx119_1⟩ := at_T26 (Kd.R_reads' HO_4.out).2.2 x7_2 p119 q119; obtain rfl : ad112 = ad119 := (by injection e119); replace p119 := eq_true p119; replace q119 := eq_true q119; have p120 : 0 ≤ ((ji13) : Int) := of_decide_eq_true (by first | (with_reducible assumption) | assumption); have q120 : (ji13) < (t109.length : Int) := of_decide_eq_true (by first | (with_reducible assumption) | assumption); obtain ⟨ad120, e120, hx120_0, hx120_1⟩ := at_T26 (Kd.R_reads' HO_4.out).2.2 (ji13) p120 q120; obtain rfl : ad112 = ad120 := (by injection e120); replace p120 := eq_true p120; replace q120 := eq_true q120)); try go_wp2_with (first | (go_at_call 16; (with_reducible refine (tile_Width.calls (wrap64 (Int.tmod a0 65)) ((rd_T26 t109 x7_2).f0) ((rd_T26 t109 x7_2).f1) t114 _ A11.out).mono ?_); rintro e w24 ⟨rfl, hb⟩; have n0_ := Aside0.mk (Kd.R_below (by (with_reducible repeat (first | apply Kd.R_alloc | apply Kd.R_drewN | apply Kd.R_drew)); exact HO_4.out) hb); have n1_ := Aside0.mk (below_step (by repeat (first | (with_reducible first | exact HB.out | apply below_alloc | apply pw_below_drewN | apply below_drew1) | exact HB.out)) hb); clear HO_4; clear HB; have HO_4 := n0_; have HB := n1_; clear n0_ n1_; (try clear hb); (try clear hb2); (try clear hk); (try clear hi); have p115 : 0 ≤ (x7_2 : Int) := of_decide_eq_true (by first | (with_reducible assumption) | assumption); have q115 : x7_2 < (t109.length : Int) := of_decide_eq_true (by first | (with_reducible assumption) | assumption); obtain ⟨ad115, e115, hx115_0, hx115_1⟩ := at_T26 (Kd.R_reads' HO_4.out).2.2 x7_2 p115 q115; obtain rfl : ad112 = ad115 := (by injection e115); replace p115 := eq_true p115; replace q115 := eq_true q115; have p116 : 0 ≤ ((ji13) : Int) := of_decide_eq_true (by first | (with_reducible assumption) | assumption); have q116 : (ji13) < (t109.length : Int) := of_decide_eq_true (by first | (with_reducible assumption) | assumption); obtain ⟨ad116, e116, hx116_0, hx116_1⟩ := at_T26 (Kd.R_reads' HO_4.out).2.2 (ji13) p116 q116; obtain rfl : ad112 = ad116 := (by injection e116); replace p116 := eq_true p116; replace q116 := eq_true q116; have p117 : 0 ≤ (x7_2 : Int) := of_decide_eq_true (by first | (with_reducible assumption) | assumption); have q117 : x7_2 < (t109.length : Int) := of_decide_eq_true (by first | (with_reducible assumption) | assumption); obtain ⟨ad117, e117, hx117_0, hx117_1⟩ := at_T26 (Kd.R_reads' HO_4.out).2.2 x7_2 p117 q117; obtain rfl : ad112 = ad117 := (by injection e117); replace p117 := eq_true p117; replace q117 := eq_true q117; have p118 : 0 ≤ ((ji13) : Int) := of_decide_eq_true (by first | (with_reducible assumption) | assumption); have q118 : (ji13) < (t109.length : Int) := of_decide_eq_true (by first | (with_reducible assumption) | assumption); obtain ⟨ad118, e118, hx118_0, hx118_1⟩ := at_T26 (Kd.R_reads' HO_4.out).2.2 (ji13) p118 q118; obtain rfl : ad112 = ad118 := (by injection e118); replace p118 := eq_true p118; replace q118 := eq_true q118; have p119 : 0 ≤ (x7_2 : Int) := of_decide_eq_true (by first | (with_reducible assumption) | assumption); have q119 : x7_2 < (t109.length : Int) := of_decide_eq_true (by first | (with_reducible assumption) | assumption); obtain ⟨ad119, e119, hx119_0, hx119_1⟩ := at_T26 (Kd.R_reads' HO_4.out).2.2 x7_2 p119 q119; obtain rfl : ad112 = ad119 := (by injection e119); replace p119 := eq_true p119; replace q119 := eq_true q119; have p120 : 0 ≤ ((ji13) : Int) := of_decide_eq_true (by first | (with_reducible assumption) | assumption); have q120 : (ji13) < (t109.length : Int) := of_decide_eq_true (by first | (with_reducible assumption) | assumption); obtain ⟨ad120, e120, hx120_0, hx120_1⟩ := at_T26 (Kd.R_reads' HO_4.out).2.2 (ji13) p120 q120; obtain rfl : ad112 = ad120 := (by injection e120); replace p120 := eq_true p120; replace q120 := eq_true q120)))
                                go_ret
                                exact ⟨by first | rfl | (simp [errW_none, errW_some] <;> rfl) | (simp only [← hji13]; first | rfl | (simp [errW_none, errW_some] <;> rfl)) | (simp [*, errW_none, errW_some] <;> rfl), by repeat (first | (with_reducible first | exact HB.out | apply below_alloc | apply pw_below_drewN | apply below_drew1) | exact HB.out)⟩
                            · rw [if_neg c19] at H
                              have c19b0 : (((rd_T26 t109 x7_2).f0) == ((rd_T26 t109 (ji13)).f0)) = false := beq_eq_false_iff_ne.mpr c19
                              have c19b1 : (((rd_T26 t109 x7_2).f0) != ((rd_T26 t109 (ji13)).f0)) = true := bne_iff_ne.mpr c19
                              have H' := Aside0.mk H
                              clear H
                              obtain ⟨Ao25, co25, eo25⟩ := Kd.R_slice HO_4.out
                              subst eo25
                              have p112 : 0 ≤ (x7_2 : Int) := of_decide_eq_true (by first | (with_reducible assumption) | assumption)
                              have q112 : x7_2 < (t109.length : Int) := of_decide_eq_true (by first | (with_reducible assumption) | assumption)
                              obtain ⟨ad112, e112, hx112_0, hx112_1⟩ := at_T26 (Kd.R_reads' HO_4.out).2.2 x7_2 p112 q112
                              cases e112
                              replace p112 := eq_true p112
                              replace q112 := eq_true q112
                              have p113 : 0 ≤ (x7_2 : Int) := of_decide_eq_true (by first | (with_reducible assumption) | assumption)
                              have q113 : x7_2 < (t109.length : Int) := of_decide_eq_true (by first | (with_reducible assumption) | assumption)
                              obtain ⟨ad113, e113, hx113_0, hx113_1⟩ := at_T26 (Kd.R_reads' HO_4.out).2.2 x7_2 p113 q113
                              obtain rfl : ad112 = ad113 := (by injection e113)
                              replace p113 := eq_true p113
                              replace q113 := eq_true q113
                              go_wp2_with (first | (go_at_call 16; (with_reducible refine (tile_Width.calls (wrap64 (Int.tmod a0 65)) ((rd_T26 t109 x7_2).f0) ((rd_T26 t109 x7_2).f1) t114 _ A11.out).mono ?_); rintro e w26 ⟨rfl, hb⟩; have n0_ := Aside0.mk (Kd.R_below (by (with_reducible repeat (first | apply Kd.R_alloc | apply Kd.R_drewN | apply Kd.R_drew)); exact HO_4.out) hb); have n1_ := Aside0.mk (below_step (by repeat (first | (with_reducible first | exact HB.out | apply below_alloc | apply pw_below_drewN | apply below_drew1) | exact HB.out)) hb); clear HO_4; clear HB; have HO_4 := n0_; have HB := n1_; clear n0_ n1_; (try clear hb); (try clear hb2); (try clear hk); (try clear hi); have p115 : 0 ≤ (x7_2 : Int) := of_decide_eq_true (by first | (with_reducible assumption) | assumption); have q115 : x7_2 < (t109.length : Int) := of_decide_eq_true (by first | (with_reducible assumption) | assumption); obtain ⟨ad115, e115, hx115_0, hx115_1⟩ := at_T26 (Kd.R_reads' HO_4.out).2.2 x7_2 p115 q115; obtain rfl : ad112 = ad115 := (by injection e115); replace p115 := eq_true p115; replace q115 := eq_true q115; have p116 : 0 ≤ ((ji13) : Int) := of_decide_eq_true (by first | (with_reducible assumption) | assumption); have q116 : (ji13) < (t109.length : Int) := of_decide_eq_true (by first | (with_reducible assumption) | assumption); obtain ⟨ad116, e116, hx116_0, hx116_1⟩ := at_T26 (Kd.R_reads' HO_4.out).2.2 (ji13) p116 q116; obtain rfl : ad112 = ad116 := (by injection e116); replace p116 := eq_true p116; replace q116 := eq_true q116; have p117 : 0 ≤ (x7_2 : Int) := of_decide_eq_true (by first | (with_reducible assumption) | assumption); have q117 : x7_2 < (t109.length : Int) := of_decide_eq_true (by first | (with_reducible assumption) | assumption); obtain ⟨ad117, e117, hx117_0, hx117_1⟩ := at_T26 (Kd.R_reads' HO_4.out).2.2 x7_2 p117 q117; obtain rfl : ad112 = ad117 := (by injection e117); replace p117 := eq_true p117; replace q117 := eq_true q117; have p118 : 0 ≤ ((ji13) : Int) := of_decide_eq_true (by first | (with_reducible assumption) | assumption); have q118 : (ji13) < (t109.length : Int) := of_decide_eq_true (by first | (with_reducible assumption) | assumption); obtain ⟨ad118, e118, hx118_0, hx118_1⟩ := at_T26 (Kd.R_reads' HO_4.out).2.2 (ji13) p118 q118; obtain rfl : ad112 = ad118 := (by injection e118); replace p118 := eq_true p118; replace q118 := eq_true q118))
                              repeat (go_quiet (first | (go_at_call 16; (with_reducible refine (tile_Width.calls (wrap64 (Int.tmod a0 65)) ((rd_T26 t109 x7_2).f0) ((rd_T26 t109 x7_2).f1) t114 _ A11.out).mono ?_); rintro e w26 ⟨rfl, hb⟩; have n0_ := Aside0.mk (Kd.R_below (by (with_reducible repeat (first | apply Kd.R_alloc | apply Kd.R_drewN | apply Kd.R_drew)); exact HO_4.out) hb); have n1_ := Aside0.mk (below_step (by repeat (first | (with_reducible first | exact HB.out | apply below_alloc | apply pw_below_drewN | apply below_drew1) | exact HB.out)) hb); clear HO_4; clear HB; have HO_4 := n0_; have HB := n1_; clear n0_ n1_; (try clear hb); (try clear hb2); (try clear hk); (try clear hi); have p115 : 0 ≤ (x7_2 : Int) := of_decide_eq_true (by first | (with_reducible assumption) | assumption); have q115 : x7_2 < (t109.length : Int) := of_decide_eq_true (by first | (with_reducible assumption) | assumption); obtain ⟨ad115, e115, hx115_0, hx115_1⟩ := at_T26 (Kd.R_reads' HO_4.out).2.2 x7_2 p115 q115; obtain rfl : ad112 = ad115 := (by injection e115); replace p115 := eq_true p115; replace q115 := eq_true q115; have p116 : 0 ≤ ((ji13) : Int) := of_decide_eq_true (by first | (with_reducible assumption) | assumption); have q116 : (ji13) < (t109.length : Int) := of_decide_eq_true (by first | (with_reducible assumption) | assumption); obtain ⟨ad116, e116, hx116_0, hx116_1⟩ := at_T26 (Kd.R_reads' HO_4.out).2.2 (ji13) p116 q116; obtain rfl : ad112 = ad116 := (by injection e116); replace p116 := eq_true p116; replace q116 := eq_true q116; have p117 : 0 ≤ (x7_2 : Int) := of_decide_eq_true (by first | (with_reducible assumption) | assumption); have q117 : x7_2 < (t109.length : Int) := of_decide_eq_true (by first | (with_reducible assumption) | assumption); obtain ⟨ad117, e117, hx117_0, hx117_1⟩ := at_T26 (Kd.R_reads' HO_4.out).2.2 x7_2 p117 q117; obtain rfl : ad112 = ad117 := (by injection e117); replace p117 := eq_true p117; replace q117 := eq_true q117; have p118 : 0 ≤ ((ji13) : Int) := of_decide_eq_true (by first | (with_reducible assumption) | assumption); have q118 : (ji13) < (t109.length : Int) := of_decide_eq_true (by first | (with_reducible assumption) | assumption); obtain ⟨ad118, e118, hx118_0, hx118_1⟩ := at_T26 (Kd.R_reads' HO_4.out).2.2 (ji13) p118 q118; obtain rfl : ad112 = ad118 := (by injection e118); replace p118 := eq_true p118; replace q118 := eq_true q118)); try go_wp2_with (first | (go_at_call 16; (with_reducible refine (tile_Width.calls (wrap64 (Int.tmod a0 65)) ((rd_T26 t109 x7_2).f0) ((rd_T26 t109 x7_2).f1) t114 _ A11.out).mono ?_); rintro e w26 ⟨rfl, hb⟩; have n0_ := Aside0.mk (Kd.R_below (by (with_reducible repeat (first | apply Kd.R_alloc | apply Kd.R_drewN | apply Kd.R_drew)); exact HO_4.out) hb); have n1_ := Aside0.mk (below_step (by repeat (first | (with_reducible first | exact HB.out | apply below_alloc | apply pw_below_drewN | apply below_drew1) | exact HB.out)) hb); clear HO_4; clear HB; have HO_4 := n0_; have HB := n1_; clear n0_ n1_; (try clear hb); (try clear hb2); (try clear hk); (try clear hi); have p115 : 0 ≤ (x7_2 : Int) := of_decide_eq_true (by first | (with_reducible assumption) | assumption); have q115 : x7_2 < (t109.length : Int) := of_decide_eq_true (by first | (with_reducible assumption) | assumption); obtain ⟨ad115, e115, hx115_0, hx115_1⟩ := at_T26 (Kd.R_reads' HO_4.out).2.2 x7_2 p115 q115; obtain rfl : ad112 = ad115 := (by injection e115); replace p115 := eq_true p115; replace q115 := eq_true q115; have p116 : 0 ≤ ((ji13) : Int) := of_decide_eq_true (by first | (with_reducible assumption) | assumption); have q116 : (ji13) < (t109.length : Int) := of_decide_eq_true (by first | (with_reducible assumption) | assumption); obtain ⟨ad116, e116, hx116_0, hx116_1⟩ := at_T26 (Kd.R_reads' HO_4.out).2.2 (ji13) p116 q116; obtain rfl : ad112 = ad116 := (by injection e116); replace p116 := eq_true p116; replace q116 := eq_true q116; have p117 : 0 ≤ (x7_2 : Int) := of_decide_eq_true (by first | (with_reducible assumption) | assumption); have q117 : x7_2 < (t109.length : Int) := of_decide_eq_true (by first | (with_reducible assumption) | assumption); obtain ⟨ad117, e117, hx117_0, hx117_1⟩ := at_T26 (Kd.R_reads' HO_4.out).2.2 x7_2 p117 q117; obtain rfl : ad112 = ad117 := (by injection e117); replace p117 := eq_true p117; replace q117 := eq_true q117; have p118 : 0 ≤ ((ji13) : Int) := of_decide_eq_true (by first | (with_reducible assumption) | assumption); have q118 : (ji13) < (t109.length : Int) := of_decide_eq_true (by first | (with_reducible assumption) | assumption); obtain ⟨ad118, e118, hx118_0, hx118_1⟩ := at_T26 (Kd.R_reads' HO_4.out).2.2 (ji13) p118 q118; obtain rfl : ad112 = ad118 := (by injection e118); replace p118 := eq_true p118; replace q118 := eq_true q118)))
                              go_roundg k2
                              case measure => have := HK1.out; have := HK2.out; omega
                              case rel => exact ⟨(wrap64 (x6_2 + t114)), (wrap64 (x7_2 + 1)), (by first | rfl | (simp; done) | (simp [*]; done)), (by first | rfl | (simp; done) | (simp [*]; done)), H', ⟨by have := HK1.out; have := HK2.out; omega⟩, ⟨by (with_reducible repeat (first | apply Kd.R_alloc | apply Kd.R_drewN | apply Kd.R_drew)); exact HO_4.out⟩, ⟨by repeat (first | (with_reducible first | exact HB.out | apply below_alloc | apply pw_below_drewN | apply below_drew1) | exact HB.out)⟩⟩
                        · rw [if_neg c15] at H
                          exact absurd H (by simp)
                      · rw [if_neg c14] at H
                        exact absurd H (by simp)
                    · rw [if_neg c12] at H
                      have c12b0 : decide (0 < x7_2) = false := decide_eq_false c12
                      clear c12
                      have H' := Aside0.mk H
                      clear H
                      obtain ⟨Ao27, co27, eo27⟩ := Kd.R_slice HO_4.out
                      subst eo27
                      have p112 : 0 ≤ (x7_2 : Int) := of_decide_eq_true (by first | (with_reducible assumption) | assumption)
                      have q112 : x7_2 < (t109.length : Int) := of_decide_eq_true (by first | (with_reducible assumption) | assumption)
                      obtain ⟨ad112, e112, hx112_0, hx112_1⟩ := at_T26 (Kd.R_reads' HO_4.out).2.2 x7_2 p112 q112
                      cases e112
                      replace p112 := eq_true p112
                      replace q112 := eq_true q112
                      have p113 : 0 ≤ (x7_2 : Int) := of_decide_eq_true (by first | (with_reducible assumption) | assumption)
                      have q113 : x7_2 < (t109.length : Int) := of_decide_eq_true (by first | (with_reducible assumption) | assumption)
                      obtain ⟨ad113, e113, hx113_0, hx113_1⟩ := at_T26 (Kd.R_reads' HO_4.out).2.2 x7_2 p113 q113
                      obtain rfl : ad112 = ad113 := (by injection e113)
                      replace p113 := eq_true p113
                      replace q113 := eq_true q113
                      go_wp2_with (first | (go_at_call 16; (with_reducible refine (tile_Width.calls (wrap64 (Int.tmod a0 65)) ((rd_T26 t109 x7_2).f0) ((rd_T26 t109 x7_2).f1) t114 _ A11.out).mono ?_); rintro e w28 ⟨rfl, hb⟩; have n0_ := Aside0.mk (Kd.R_below (by (with_reducible repeat (first | apply Kd.R_alloc | apply Kd.R_drewN | apply Kd.R_drew)); exact HO_4.out) hb); have n1_ := Aside0.mk (below_step (by repeat (first | (with_reducible first | exact HB.out | apply below_alloc | apply pw_below_drewN | apply below_drew1) | exact HB.out)) hb); clear HO_4; clear HB; have HO_4 := n0_; have HB := n1_; clear n0_ n1_; (try clear hb); (try clear hb2); (try clear hk); (try clear hi)))
                      repeat (go_quiet (first | (go_at_call 16; (with_reducible refine (tile_Width.calls (wrap64 (Int.tmod a0 65)) ((rd_T26 t109 x7_2).f0) ((rd_T26 t109 x7_2).f1) t114 _ A11.out).mono ?_); rintro e w28 ⟨rfl, hb⟩; have n0_ := Aside0.mk (Kd.R_below (by (with_reducible repeat (first | apply Kd.R_alloc | apply Kd.R_drewN | apply Kd.R_drew)); exact HO_4.out) hb); have n1_ := Aside0.mk (below_step (by repeat (first | (with_reducible first | exact HB.out | apply below_alloc | apply pw_below_drewN | apply below_drew1) | exact HB.out)) hb); clear HO_4; clear HB; have HO_4 := n0_; have HB := n1_; clear n0_ n1_; (try clear hb); (try clear hb2); (try clear hk); (try clear hi))); try go_wp2_with (first | (go_at_call 16; (with_reducible refine (tile_Width.calls (wrap64 (Int.tmod a0 65)) ((rd_T26 t109 x7_2).f0) ((rd_T26 t109 x7_2).f1) t114 _ A11.out).mono ?_); rintro e w28 ⟨rfl, hb⟩; have n0_ := Aside0.mk (Kd.R_below (by (with_reducible repeat (first | apply Kd.R_alloc | apply Kd.R_drewN | apply Kd.R_drew)); exact HO_4.out) hb); have n1_ := Aside0.mk (below_step (by repeat (first | (with_reducible first | exact HB.out | apply below_alloc | apply pw_below_drewN | apply below_drew1) | exact HB.out)) hb); clear HO_4; clear HB; have HO_4 := n0_; have HB := n1_; clear n0_ n1_; (try clear hb); (try clear hb2); (try clear hk); (try clear hi))))
                      go_roundg k2
                      case measure => have := HK1.out; have := HK2.out; omega
                      case rel => exact ⟨(wrap64 (x6_2 + t114)), (wrap64 (x7_2 + 1)), (by first | rfl | (simp; done) | (simp [*]; done)), (by first | rfl | (simp; done) | (simp [*]; done)), H', ⟨by have := HK1.out; have := HK2.out; omega⟩, ⟨by (with_reducible repeat (first | apply Kd.R_alloc | apply Kd.R_drewN | apply Kd.R_drew)); exact HO_4.out⟩, ⟨by repeat (first | (with_reducible first | exact HB.out | apply below_alloc | apply pw_below_drewN | apply below_drew1) | exact HB.out)⟩⟩
                  · rw [if_neg c10] at H
                    have c10b0 : (((rd_T26 t109 x7_2).f0) == x5_1) = false := beq_eq_false_iff_ne.mpr c10
                    have c10b1 : (((rd_T26 t109 x7_2).f0) != x5_1) = true := bne_iff_ne.mpr c10
                    by_cases c29 : x7_2 > 0
                    · rw [if_pos c29] at H
                      have c29b0 : decide (0 < x7_2) = true := decide_eq_true c29
                      clear c29
                      obtain ⟨ji30, hji30⟩ : ∃ j_ : Int, (wrap64 (x7_2 - 1)) = j_ := ⟨_, rfl⟩
                      replace H : (if 0 ≤ (ji30) then (if (ji30) < (t109.length : Int) then (if ((rd_T26 t109 x7_2).f0) > ((rd_T26 t109 (ji30)).f0) then (some false) else (if ((rd_T26 t109 x7_2).f0) = ((rd_T26 t109 (ji30)).f0) then (if ((rd_T26 t109 x7_2).f1) = (wrap64 (((rd_T26 t109 (ji30)).f1) + 1)) then (annalistlaw07_TileCovers.l1 k2 (wrap64 (Int.tmod a0 65)) t109 x5_1 x6_2 (wrap64 (x7_2 + 1))) else (some false)) else (annalistlaw07_TileCovers.l1 k2 (wrap64 (Int.tmod a0 65)) t109 x5_1 x6_2 (wrap64 (x7_2 + 1))))) else (none)) else (none)) = some r := by first | (rw [hji30] at H; exact H) | (simp only [hji30] at H ⊢; exact H)
                      have hji30w : (IntKind.i64.wrap (x7_2 - 1)) = ji30 := (i64_w _).trans hji30
                      by_cases c31 : 0 ≤ (ji30)
                      · rw [if_pos c31] at H
                        have c31b0 : decide (0 ≤ (ji30)) = true := decide_eq_true c31
                        clear c31
                        by_cases c32 : (ji30) < (t109.length : Int)
                        · rw [if_pos c32] at H
                          have c32b0 : decide ((ji30) < (t109.length : Int)) = true := decide_eq_true c32
                          clear c32
                          by_cases c33 : ((rd_T26 t109 x7_2).f0) > ((rd_T26 t109 (ji30)).f0)
                          · rw [if_pos c33] at H
                            have c33b0 : decide (((rd_T26 t109 (ji30)).f0) < ((rd_T26 t109 x7_2).f0)) = true := decide_eq_true c33
                            clear c33
                            obtain rfl := Option.some.inj H
                            obtain ⟨Ao34, co34, eo34⟩ := Kd.R_slice HO_4.out
                            subst eo34
                            have p112 : 0 ≤ (x7_2 : Int) := of_decide_eq_true (by first | (with_reducible assumption) | assumption)
                            have q112 : x7_2 < (t109.length : Int) := of_decide_eq_true (by first | (with_reducible assumption) | assumption)
                            obtain ⟨ad112, e112, hx112_0, hx112_1⟩ := at_T26 (Kd.R_reads' HO_4.out).2.2 x7_2 p112 q112
                            cases e112
                            replace p112 := eq_true p112
                            replace q112 := eq_true q112
                            have p121 : 0 ≤ (x7_2 : Int) := of_decide_eq_true (by first | (with_reducible assumption) | assumption)
                            have q121 : x7_2 < (t109.length : Int) := of_decide_eq_true (by first | (with_reducible assumption) | assumption)
                            obtain ⟨ad121, e121, hx121_0, hx121_1⟩ := at_T26 (Kd.R_reads' HO_4.out).2.2 x7_2 p121 q121
                            obtain rfl : ad112 = ad121 := (by injection e121)
                            replace p121 := eq_true p121
                            replace q121 := eq_true q121
                            have p122 : 0 ≤ ((ji30) : Int) := of_decide_eq_true (by first | (with_reducible assumption) | assumption)
                            have q122 : (ji30) < (t109.length : Int) := of_decide_eq_true (by first | (with_reducible assumption) | assumption)
                            obtain ⟨ad122, e122, hx122_0, hx122_1⟩ := at_T26 (Kd.R_reads' HO_4.out).2.2 (ji30) p122 q122
                            obtain rfl : ad112 = ad122 := (by injection e122)
                            replace p122 := eq_true p122
                            replace q122 := eq_true q122
                            go_wp2
                            repeat (go_quiet (fail); try go_wp2)
                            go_ret
                            exact ⟨by first | rfl | (simp [errW_none, errW_some] <;> rfl) | (simp only [← hji30]; first | rfl | (simp [errW_none, errW_some] <;> rfl)) | (simp [*, errW_none, errW_some] <;> rfl), by repeat (first | (with_reducible first | exact HB.out | apply below_alloc | apply pw_below_drewN | apply below_drew1) | exact HB.out)⟩
                          · rw [if_neg c33] at H
                            have c33b0 : decide (((rd_T26 t109 (ji30)).f0) < ((rd_T26 t109 x7_2).f0)) = false := decide_eq_false c33
                            clear c33
                            by_cases c35 : ((rd_T26 t109 x7_2).f0) = ((rd_T26 t109 (ji30)).f0)
                            · rw [if_pos c35] at H
                              have c35b0 : (((rd_T26 t109 x7_2).f0) == ((rd_T26 t109 (ji30)).f0)) = true := beq_iff_eq.mpr c35
                              have c35b1 : (((rd_T26 t109 x7_2).f0) != ((rd_T26 t109 (ji30)).f0)) = false := bne_eq_false_iff_eq.mpr c35
                              clear c35
                              by_cases c36 : ((rd_T26 t109 x7_2).f1) = (wrap64 (((rd_T26 t109 (ji30)).f1) + 1))
                              · rw [if_pos c36] at H
                                have c36b0 : (((rd_T26 t109 x7_2).f1) == (wrap64 (((rd_T26 t109 (ji30)).f1) + 1))) = true := beq_iff_eq.mpr c36
                                have c36b1 : (((rd_T26 t109 x7_2).f1) != (wrap64 (((rd_T26 t109 (ji30)).f1) + 1))) = false := bne_eq_false_iff_eq.mpr c36
                                clear c36
                                have H' := Aside0.mk H
                                clear H
                                obtain ⟨Ao37, co37, eo37⟩ := Kd.R_slice HO_4.out
                                subst eo37
                                have p112 : 0 ≤ (x7_2 : Int) := of_decide_eq_true (by first | (with_reducible assumption) | assumption)
                                have q112 : x7_2 < (t109.length : Int) := of_decide_eq_true (by first | (with_reducible assumption) | assumption)
                                obtain ⟨ad112, e112, hx112_0, hx112_1⟩ := at_T26 (Kd.R_reads' HO_4.out).2.2 x7_2 p112 q112
                                cases e112
                                replace p112 := eq_true p112
                                replace q112 := eq_true q112
                                have p121 : 0 ≤ (x7_2 : Int) := of_decide_eq_true (by first | (with_reducible assumption) | assumption)
                                have q121 : x7_2 < (t109.length : Int) := of_decide_eq_true (by first | (with_reducible assumption) | assumption)
                                obtain ⟨ad121, e121, hx121_0, hx121_1⟩ := at_T26 (Kd.R_reads' HO_4.out).2.2 x7_2 p121 q121
                                obtain rfl : ad112 = ad121 := (by injection e121)
                                replace p121 := eq_true p121
                                replace q121 := eq_true q121
                                have p122 : 0 ≤ ((ji30) : Int) := of_decide_eq_true (by first | (with_reducible assumption) | assumption)
                                have q122 : (ji30) < (t109.length : Int) := of_decide_eq_true (by first | (with_reducible assumption) | assumption)
                                obtain ⟨ad122, e122, hx122_0, hx122_1⟩ := at_T26 (Kd.R_reads' HO_4.out).2.2 (ji30) p122 q122
                                obtain rfl : ad112 = ad122 := (by injection e122)
                                replace p122 := eq_true p122
                                replace q122 := eq_true q122
                                have p123 : 0 ≤ (x7_2 : Int) := of_decide_eq_true (by first | (with_reducible assumption) | assumption)
                                have q123 : x7_2 < (t109.length : Int) := of_decide_eq_true (by first | (with_reducible assumption) | assumption)
                                obtain ⟨ad123, e123, hx123_0, hx123_1⟩ := at_T26 (Kd.R_reads' HO_4.out).2.2 x7_2 p123 q123
                                obtain rfl : ad112 = ad123 := (by injection e123)
                                replace p123 := eq_true p123
                                replace q123 := eq_true q123
                                have p124 : 0 ≤ ((ji30) : Int) := of_decide_eq_true (by first | (with_reducible assumption) | assumption)
                                have q124 : (ji30) < (t109.length : Int) := of_decide_eq_true (by first | (with_reducible assumption) | assumption)
                                obtain ⟨ad124, e124, hx124_0, hx124_1⟩ := at_T26 (Kd.R_reads' HO_4.out).2.2 (ji30) p124 q124
                                obtain rfl : ad112 = ad124 := (by injection e124)
                                replace p124 := eq_true p124
                                replace q124 := eq_true q124
                                have p125 : 0 ≤ (x7_2 : Int) := of_decide_eq_true (by first | (with_reducible assumption) | assumption)
                                have q125 : x7_2 < (t109.length : Int) := of_decide_eq_true (by first | (with_reducible assumption) | assumption)
                                obtain ⟨ad125, e125, hx125_0, hx125_1⟩ := at_T26 (Kd.R_reads' HO_4.out).2.2 x7_2 p125 q125
                                obtain rfl : ad112 = ad125 := (by injection e125)
                                replace p125 := eq_true p125
                                replace q125 := eq_true q125
                                have p126 : 0 ≤ ((ji30) : Int) := of_decide_eq_true (by first | (with_reducible assumption) | assumption)
                                have q126 : (ji30) < (t109.length : Int) := of_decide_eq_true (by first | (with_reducible assumption) | assumption)
                                obtain ⟨ad126, e126, hx126_0, hx126_1⟩ := at_T26 (Kd.R_reads' HO_4.out).2.2 (ji30) p126 q126
                                obtain rfl : ad112 = ad126 := (by injection e126)
                                replace p126 := eq_true p126
                                replace q126 := eq_true q126
                                go_wp2
                                repeat (go_quiet (fail); try go_wp2)
                                go_roundg k2
                                case measure => have := HK1.out; have := HK2.out; omega
                                case rel => exact ⟨(x6_2), (wrap64 (x7_2 + 1)), (by first | rfl | (simp; done) | (simp [*]; done)), (by first | rfl | (simp; done) | (simp [*]; done)), H', ⟨by have := HK1.out; have := HK2.out; omega⟩, ⟨by (with_reducible repeat (first | apply Kd.R_alloc | apply Kd.R_drewN | apply Kd.R_drew)); exact HO_4.out⟩, ⟨by repeat (first | (with_reducible first | exact HB.out | apply below_alloc | apply pw_below_drewN | apply below_drew1) | exact HB.out)⟩⟩
                              · rw [if_neg c36] at H
                                have c36b0 : (((rd_T26 t109 x7_2).f1) == (wrap64 (((rd_T26 t109 (ji30)).f1) + 1))) = false := beq_eq_false_iff_ne.mpr c36
                                have c36b1 : (((rd_T26 t109 x7_2).f1) != (wrap64 (((rd_T26 t109 (ji30)).f1) + 1))) = true := bne_iff_ne.mpr c36
                                obtain rfl := Option.some.inj H
                                obtain ⟨Ao38, co38, eo38⟩ := Kd.R_slice HO_4.out
                                subst eo38
                                have p112 : 0 ≤ (x7_2 : Int) := of_decide_eq_true (by first | (with_reducible assumption) | assumption)
                                have q112 : x7_2 < (t109.length : Int) := of_decide_eq_true (by first | (with_reducible assumption) | assumption)
                                obtain ⟨ad112, e112, hx112_0, hx112_1⟩ := at_T26 (Kd.R_reads' HO_4.out).2.2 x7_2 p112 q112
                                cases e112
                                replace p112 := eq_true p112
                                replace q112 := eq_true q112
                                have p121 : 0 ≤ (x7_2 : Int) := of_decide_eq_true (by first | (with_reducible assumption) | assumption)
                                have q121 : x7_2 < (t109.length : Int) := of_decide_eq_true (by first | (with_reducible assumption) | assumption)
                                obtain ⟨ad121, e121, hx121_0, hx121_1⟩ := at_T26 (Kd.R_reads' HO_4.out).2.2 x7_2 p121 q121
                                obtain rfl : ad112 = ad121 := (by injection e121)
                                replace p121 := eq_true p121
                                replace q121 := eq_true q121
                                have p122 : 0 ≤ ((ji30) : Int) := of_decide_eq_true (by first | (with_reducible assumption) | assumption)
                                have q122 : (ji30) < (t109.length : Int) := of_decide_eq_true (by first | (with_reducible assumption) | assumption)
                                obtain ⟨ad122, e122, hx122_0, hx122_1⟩ := at_T26 (Kd.R_reads' HO_4.out).2.2 (ji30) p122 q122
                                obtain rfl : ad112 = ad122 := (by injection e122)
                                replace p122 := eq_true p122
                                replace q122 := eq_true q122
                                have p123 : 0 ≤ (x7_2 : Int) := of_decide_eq_true (by first | (with_reducible assumption) | assumption)
                                have q123 : x7_2 < (t109.length : Int) := of_decide_eq_true (by first | (with_reducible assumption) | assumption)
                                obtain ⟨ad123, e123, hx123_0, hx123_1⟩ := at_T26 (Kd.R_reads' HO_4.out).2.2 x7_2 p123 q123
                                obtain rfl : ad112 = ad123 := (by injection e123)
                                replace p123 := eq_true p123
                                replace q123 := eq_true q123
                                have p124 : 0 ≤ ((ji30) : Int) := of_decide_eq_true (by first | (with_reducible assumption) | assumption)
                                have q124 : (ji30) < (t109.length : Int) := of_decide_eq_true (by first | (with_reducible assumption) | assumption)
                                obtain ⟨ad124, e124, hx124_0, hx124_1⟩ := at_T26 (Kd.R_reads' HO_4.out).2.2 (ji30) p124 q124
                                obtain rfl : ad112 = ad124 := (by injection e124)
                                replace p124 := eq_true p124
                                replace q124 := eq_true q124
                                have p125 : 0 ≤ (x7_2 : Int) := of_decide_eq_true (by first | (with_reducible assumption) | assumption)
                                have q125 : x7_2 < (t109.length : Int) := of_decide_eq_true (by first | (with_reducible assumption) | assumption)
                                obtain ⟨ad125, e125, hx125_0, hx125_1⟩ := at_T26 (Kd.R_reads' HO_4.out).2.2 x7_2 p125 q125
                                obtain rfl : ad112 = ad125 := (by injection e125)
                                replace p125 := eq_true p125
                                replace q125 := eq_true q125
                                have p126 : 0 ≤ ((ji30) : Int) := of_decide_eq_true (by first | (with_reducible assumption) | assumption)
                                have q126 : (ji30) < (t109.length : Int) := of_decide_eq_true (by first | (with_reducible assumption) | assumption)
                                obtain ⟨ad126, e126, hx126_0, hx126_1⟩ := at_T26 (Kd.R_reads' HO_4.out).2.2 (ji30) p126 q126
                                obtain rfl : ad112 = ad126 := (by injection e126)
                                replace p126 := eq_true p126
                                replace q126 := eq_true q126
                                go_wp2
                                repeat (go_quiet (fail); try go_wp2)
                                go_ret
                                exact ⟨by first | rfl | (simp [errW_none, errW_some] <;> rfl) | (simp only [← hji30]; first | rfl | (simp [errW_none, errW_some] <;> rfl)) | (simp [*, errW_none, errW_some] <;> rfl), by repeat (first | (with_reducible first | exact HB.out | apply below_alloc | apply pw_below_drewN | apply below_drew1) | exact HB.out)⟩
                            · rw [if_neg c35] at H
                              have c35b0 : (((rd_T26 t109 x7_2).f0) == ((rd_T26 t109 (ji30)).f0)) = false := beq_eq_false_iff_ne.mpr c35
                              have c35b1 : (((rd_T26 t109 x7_2).f0) != ((rd_T26 t109 (ji30)).f0)) = true := bne_iff_ne.mpr c35
                              have H' := Aside0.mk H
                              clear H
                              obtain ⟨Ao39, co39, eo39⟩ := Kd.R_slice HO_4.out
                              subst eo39
                              have p112 : 0 ≤ (x7_2 : Int) := of_decide_eq_true (by first | (with_reducible assumption) | assumption)
                              have q112 : x7_2 < (t109.length : Int) := of_decide_eq_true (by first | (with_reducible assumption) | assumption)
                              obtain ⟨ad112, e112, hx112_0, hx112_1⟩ := at_T26 (Kd.R_reads' HO_4.out).2.2 x7_2 p112 q112
                              cases e112
                              replace p112 := eq_true p112
                              replace q112 := eq_true q112
                              have p121 : 0 ≤ (x7_2 : Int) := of_decide_eq_true (by first | (with_reducible assumption) | assumption)
                              have q121 : x7_2 < (t109.length : Int) := of_decide_eq_true (by first | (with_reducible assumption) | assumption)
                              obtain ⟨ad121, e121, hx121_0, hx121_1⟩ := at_T26 (Kd.R_reads' HO_4.out).2.2 x7_2 p121 q121
                              obtain rfl : ad112 = ad121 := (by injection e121)
                              replace p121 := eq_true p121
                              replace q121 := eq_true q121
                              have p122 : 0 ≤ ((ji30) : Int) := of_decide_eq_true (by first | (with_reducible assumption) | assumption)
                              have q122 : (ji30) < (t109.length : Int) := of_decide_eq_true (by first | (with_reducible assumption) | assumption)
                              obtain ⟨ad122, e122, hx122_0, hx122_1⟩ := at_T26 (Kd.R_reads' HO_4.out).2.2 (ji30) p122 q122
                              obtain rfl : ad112 = ad122 := (by injection e122)
                              replace p122 := eq_true p122
                              replace q122 := eq_true q122
                              have p123 : 0 ≤ (x7_2 : Int) := of_decide_eq_true (by first | (with_reducible assumption) | assumption)
                              have q123 : x7_2 < (t109.length : Int) := of_decide_eq_true (by first | (with_reducible assumption) | assumption)
                              obtain ⟨ad123, e123, hx123_0, hx123_1⟩ := at_T26 (Kd.R_reads' HO_4.out).2.2 x7_2 p123 q123
                              obtain rfl : ad112 = ad123 := (by injection e123)
                              replace p123 := eq_true p123
                              replace q123 := eq_true q123
                              have p124 : 0 ≤ ((ji30) : Int) := of_decide_eq_true (by first | (with_reducible assumption) | assumption)
                              have q124 : (ji30) < (t109.length : Int) := of_decide_eq_true (by first | (with_reducible assumption) | assumption)
                              obtain ⟨ad124, e124, hx124_0, hx124_1⟩ := at_T26 (Kd.R_reads' HO_4.out).2.2 (ji30) p124 q124
                              obtain rfl : ad112 = ad124 := (by injection e124)
                              replace p124 := eq_true p124
                              replace q124 := eq_true q124
                              go_wp2
                              repeat (go_quiet (fail); try go_wp2)
                              go_roundg k2
                              case measure => have := HK1.out; have := HK2.out; omega
                              case rel => exact ⟨(x6_2), (wrap64 (x7_2 + 1)), (by first | rfl | (simp; done) | (simp [*]; done)), (by first | rfl | (simp; done) | (simp [*]; done)), H', ⟨by have := HK1.out; have := HK2.out; omega⟩, ⟨by (with_reducible repeat (first | apply Kd.R_alloc | apply Kd.R_drewN | apply Kd.R_drew)); exact HO_4.out⟩, ⟨by repeat (first | (with_reducible first | exact HB.out | apply below_alloc | apply pw_below_drewN | apply below_drew1) | exact HB.out)⟩⟩
                        · rw [if_neg c32] at H
                          exact absurd H (by simp)
                      · rw [if_neg c31] at H
                        exact absurd H (by simp)
                    · rw [if_neg c29] at H
                      have c29b0 : decide (0 < x7_2) = false := decide_eq_false c29
                      clear c29
                      have H' := Aside0.mk H
                      clear H
                      obtain ⟨Ao40, co40, eo40⟩ := Kd.R_slice HO_4.out
                      subst eo40
                      have p112 : 0 ≤ (x7_2 : Int) := of_decide_eq_true (by first | (with_reducible assumption) | assumption)
                      have q112 : x7_2 < (t109.length : Int) := of_decide_eq_true (by first | (with_reducible assumption) | assumption)
                      obtain ⟨ad112, e112, hx112_0, hx112_1⟩ := at_T26 (Kd.R_reads' HO_4.out).2.2 x7_2 p112 q112
                      cases e112
                      replace p112 := eq_true p112
                      replace q112 := eq_true q112
                      go_wp2
                      repeat (go_quiet (fail); try go_wp2)
                      go_roundg k2
                      case measure => have := HK1.out; have := HK2.out; omega
                      case rel => exact ⟨(x6_2), (wrap64 (x7_2 + 1)), (by first | rfl | (simp; done) | (simp [*]; done)), (by first | rfl | (simp; done) | (simp [*]; done)), H', ⟨by have := HK1.out; have := HK2.out; omega⟩, ⟨by (with_reducible repeat (first | apply Kd.R_alloc | apply Kd.R_drewN | apply Kd.R_drew)); exact HO_4.out⟩, ⟨by repeat (first | (with_reducible first | exact HB.out | apply below_alloc | apply pw_below_drewN | apply below_drew1) | exact HB.out)⟩⟩
                · rw [if_neg c9] at H
                  exact absurd H (by simp)
              · rw [if_neg c8] at H
                have c8b0 : decide (x7_2 < (t109.length : Int)) = false := decide_eq_false c8
                clear c8
                replace H := Option.bind_eq_some_iff.mp H
                obtain ⟨t127, A410, H⟩ := H
                replace H : (if x6_2 = t127 then ((tile_Count.f (wrap64 (Int.tmod a0 65)) x5_1).bind fun t128 => (if x6_2 = t128 then (annalistlaw07_TileCovers.l0 k2 (wrap64 (Int.tmod a0 65)) t109 (wrap64 (x5_1 + 1))) else (some false))) else (some false)) = some r := H
                have A41 := Aside0.mk A410
                clear A410
                by_cases c42 : x6_2 = t127
                · rw [if_pos c42] at H
                  have c42b0 : (x6_2 == t127) = true := beq_iff_eq.mpr c42
                  have c42b1 : (x6_2 != t127) = false := bne_eq_false_iff_eq.mpr c42
                  clear c42
                  replace H := Option.bind_eq_some_iff.mp H
                  obtain ⟨t128, A430, H⟩ := H
                  replace H : (if x6_2 = t128 then (annalistlaw07_TileCovers.l0 k2 (wrap64 (Int.tmod a0 65)) t109 (wrap64 (x5_1 + 1))) else (some false)) = some r := H
                  have A43 := Aside0.mk A430
                  clear A430
                  by_cases c44 : x6_2 = t128
                  · rw [if_pos c44] at H
                    have c44b0 : (x6_2 == t128) = true := beq_iff_eq.mpr c44
                    have c44b1 : (x6_2 != t128) = false := bne_eq_false_iff_eq.mpr c44
                    clear c44
                    have H' := Aside0.mk H
                    clear H
                    obtain ⟨Ao45, co45, eo45⟩ := Kd.R_slice HO_4.out
                    subst eo45
                    go_wp2_with (first | (go_at_call 17; (with_reducible refine (annalistref07_Count.calls k2 (wrap64 (Int.tmod a0 65)) x5_1 t127 _ A41.out).mono ?_); rintro e w' ⟨rfl, ⟨nd, rfl⟩⟩; (try first | exact ⟨rfl, _, World.drewN_drewN _ _ _⟩ | exact ⟨rfl, _, Eq.trans (World.drewN_drewN _ _ _) (congrArg (World.drewN _) (Nat.add_assoc _ _ _))⟩)) | (go_at_call 18; (with_reducible refine (tile_Count.calls (wrap64 (Int.tmod a0 65)) x5_1 t128 _ A43.out).mono ?_); rintro e w46 ⟨rfl, hb⟩; have n0_ := Aside0.mk (Kd.R_below (by (with_reducible repeat (first | apply Kd.R_alloc | apply Kd.R_drewN | apply Kd.R_drew)); exact HO_4.out) hb); have n1_ := Aside0.mk (below_step (by repeat (first | (with_reducible first | exact HB.out | apply below_alloc | apply pw_below_drewN | apply below_drew1) | exact HB.out)) hb); clear HO_4; clear HB; have HO_4 := n0_; have HB := n1_; clear n0_ n1_; (try clear hb); (try clear hb2); (try clear hk); (try clear hi)))
                    repeat (go_quiet (first | (go_at_call 17; (with_reducible refine (annalistref07_Count.calls k2 (wrap64 (Int.tmod a0 65)) x5_1 t127 _ A41.out).mono ?_); rintro e w' ⟨rfl, ⟨nd, rfl⟩⟩; (try first | exact ⟨rfl, _, World.drewN_drewN _ _ _⟩ | exact ⟨rfl, _, Eq.trans (World.drewN_drewN _ _ _) (congrArg (World.drewN _) (Nat.add_assoc _ _ _))⟩)) | (go_at_call 18; (with_reducible refine (tile_Count.calls (wrap64 (Int.tmod a0 65)) x5_1 t128 _ A43.out).mono ?_); rintro e w46 ⟨rfl, hb⟩; have n0_ := Aside0.mk (Kd.R_below (by (with_reducible repeat (first | apply Kd.R_alloc | apply Kd.R_drewN | apply Kd.R_drew)); exact HO_4.out) hb); have n1_ := Aside0.mk (below_step (by repeat (first | (with_reducible first | exact HB.out | apply below_alloc | apply pw_below_drewN | apply below_drew1) | exact HB.out)) hb); clear HO_4; clear HB; have HO_4 := n0_; have HB := n1_; clear n0_ n1_; (try clear hb); (try clear hb2); (try clear hk); (try clear hi))); try go_wp2_with (first | (go_at_call 17; (with_reducible refine (annalistref07_Count.calls k2 (wrap64 (Int.tmod a0 65)) x5_1 t127 _ A41.out).mono ?_); rintro e w' ⟨rfl, ⟨nd, rfl⟩⟩; (try first | exact ⟨rfl, _, World.drewN_drewN _ _ _⟩ | exact ⟨rfl, _, Eq.trans (World.drewN_drewN _ _ _) (congrArg (World.drewN _) (Nat.add_assoc _ _ _))⟩)) | (go_at_call 18; (with_reducible refine (tile_Count.calls (wrap64 (Int.tmod a0 65)) x5_1 t128 _ A43.out).mono ?_); rintro e w46 ⟨rfl, hb⟩; have n0_ := Aside0.mk (Kd.R_below (by (with_reducible repeat (first | apply Kd.R_alloc | apply Kd.R_drewN | apply Kd.R_drew)); exact HO_4.out) hb); have n1_ := Aside0.mk (below_step (by repeat (first | (with_reducible first | exact HB.out | apply below_alloc | apply pw_below_drewN | apply below_drew1) | exact HB.out)) hb); clear HO_4; clear HB; have HO_4 := n0_; have HB := n1_; clear n0_ n1_; (try clear hb); (try clear hb2); (try clear hk); (try clear hi))))
                    go_roundg k2
                    case measure => have := HK1.out; have := HK2.out; omega
                    case rel => exact ⟨(wrap64 (x5_1 + 1)), (by first | rfl | (simp; done) | (simp [*]; done)), H', ⟨by have := HK1.out; have := HK2.out; omega⟩, ⟨by (with_reducible repeat (first | apply Kd.R_alloc | apply Kd.R_drewN | apply Kd.R_drew)); exact HO_4.out⟩, ⟨by repeat (first | (with_reducible first | exact HB.out | apply below_alloc | apply pw_below_drewN | apply below_drew1) | exact HB.out)⟩⟩
                  · rw [if_neg c44] at H
                    have c44b0 : (x6_2 == t128) = false := beq_eq_false_iff_ne.mpr c44
                    have c44b1 : (x6_2 != t128) = true := bne_iff_ne.mpr c44
                    obtain rfl := Option.some.inj H
                    obtain ⟨Ao47, co47, eo47⟩ := Kd.R_slice HO_4.out
                    subst eo47
                    go_wp2_with (first | (go_at_call 17; (with_reducible refine (annalistref07_Count.calls k2 (wrap64 (Int.tmod a0 65)) x5_1 t127 _ A41.out).mono ?_); rintro e w' ⟨rfl, ⟨nd, rfl⟩⟩; (try first | exact ⟨rfl, _, World.drewN_drewN _ _ _⟩ | exact ⟨rfl, _, Eq.trans (World.drewN_drewN _ _ _) (congrArg (World.drewN _) (Nat.add_assoc _ _ _))⟩)) | (go_at_call 18; (with_reducible refine (tile_Count.calls (wrap64 (Int.tmod a0 65)) x5_1 t128 _ A43.out).mono ?_); rintro e w48 ⟨rfl, hb⟩; have n0_ := Aside0.mk (Kd.R_below (by (with_reducible repeat (first | apply Kd.R_alloc | apply Kd.R_drewN | apply Kd.R_drew)); exact HO_4.out) hb); have n1_ := Aside0.mk (below_step (by repeat (first | (with_reducible first | exact HB.out | apply below_alloc | apply pw_below_drewN | apply below_drew1) | exact HB.out)) hb); clear HO_4; clear HB; have HO_4 := n0_; have HB := n1_; clear n0_ n1_; (try clear hb); (try clear hb2); (try clear hk); (try clear hi)))
                    repeat (go_quiet (first | (go_at_call 17; (with_reducible refine (annalistref07_Count.calls k2 (wrap64 (Int.tmod a0 65)) x5_1 t127 _ A41.out).mono ?_); rintro e w' ⟨rfl, ⟨nd, rfl⟩⟩; (try first | exact ⟨rfl, _, World.drewN_drewN _ _ _⟩ | exact ⟨rfl, _, Eq.trans (World.drewN_drewN _ _ _) (congrArg (World.drewN _) (Nat.add_assoc _ _ _))⟩)) | (go_at_call 18; (with_reducible refine (tile_Count.calls (wrap64 (Int.tmod a0 65)) x5_1 t128 _ A43.out).mono ?_); rintro e w48 ⟨rfl, hb⟩; have n0_ := Aside0.mk (Kd.R_below (by (with_reducible repeat (first | apply Kd.R_alloc | apply Kd.R_drewN | apply Kd.R_drew)); exact HO_4.out) hb); have n1_ := Aside0.mk (below_step (by repeat (first | (with_reducible first | exact HB.out | apply below_alloc | apply pw_below_drewN | apply below_drew1) | exact HB.out)) hb); clear HO_4; clear HB; have HO_4 := n0_; have HB := n1_; clear n0_ n1_; (try clear hb); (try clear hb2); (try clear hk); (try clear hi))); try go_wp2_with (first | (go_at_call 17; (with_reducible refine (annalistref07_Count.calls k2 (wrap64 (Int.tmod a0 65)) x5_1 t127 _ A41.out).mono ?_); rintro e w' ⟨rfl, ⟨nd, rfl⟩⟩; (try first | exact ⟨rfl, _, World.drewN_drewN _ _ _⟩ | exact ⟨rfl, _, Eq.trans (World.drewN_drewN _ _ _) (congrArg (World.drewN _) (Nat.add_assoc _ _ _))⟩)) | (go_at_call 18; (with_reducible refine (tile_Count.calls (wrap64 (Int.tmod a0 65)) x5_1 t128 _ A43.out).mono ?_); rintro e w48 ⟨rfl, hb⟩; have n0_ := Aside0.mk (Kd.R_below (by (with_reducible repeat (first | apply Kd.R_alloc | apply Kd.R_drewN | apply Kd.R_drew)); exact HO_4.out) hb); have n1_ := Aside0.mk (below_step (by repeat (first | (with_reducible first | exact HB.out | apply below_alloc | apply pw_below_drewN | apply below_drew1) | exact HB.out)) hb); clear HO_4; clear HB; have HO_4 := n0_; have HB := n1_; clear n0_ n1_; (try clear hb); (try clear hb2); (try clear hk); (try clear hi))))
                    go_ret
                    exact ⟨by first | rfl | (simp [errW_none, errW_some] <;> rfl) | (simp [*, errW_none, errW_some] <;> rfl), by repeat (first | (with_reducible first | exact HB.out | apply below_alloc | apply pw_below_drewN | apply below_drew1) | exact HB.out)⟩
                · rw [if_neg c42] at H
                  have c42b0 : (x6_2 == t127) = false := beq_eq_false_iff_ne.mpr c42
                  have c42b1 : (x6_2 != t127) = true := bne_iff_ne.mpr c42
                  obtain rfl := Option.some.inj H
                  obtain ⟨Ao49, co49, eo49⟩ := Kd.R_slice HO_4.out
                  subst eo49
                  go_wp2_with (first | (go_at_call 17; (with_reducible refine (annalistref07_Count.calls k2 (wrap64 (Int.tmod a0 65)) x5_1 t127 _ A41.out).mono ?_); rintro e w' ⟨rfl, ⟨nd, rfl⟩⟩; (try first | exact ⟨rfl, _, World.drewN_drewN _ _ _⟩ | exact ⟨rfl, _, Eq.trans (World.drewN_drewN _ _ _) (congrArg (World.drewN _) (Nat.add_assoc _ _ _))⟩)))
                  repeat (go_quiet (first | (go_at_call 17; (with_reducible refine (annalistref07_Count.calls k2 (wrap64 (Int.tmod a0 65)) x5_1 t127 _ A41.out).mono ?_); rintro e w' ⟨rfl, ⟨nd, rfl⟩⟩; (try first | exact ⟨rfl, _, World.drewN_drewN _ _ _⟩ | exact ⟨rfl, _, Eq.trans (World.drewN_drewN _ _ _) (congrArg (World.drewN _) (Nat.add_assoc _ _ _))⟩))); try go_wp2_with (first | (go_at_call 17; (with_reducible refine (annalistref07_Count.calls k2 (wrap64 (Int.tmod a0 65)) x5_1 t127 _ A41.out).mono ?_); rintro e w' ⟨rfl, ⟨nd, rfl⟩⟩; (try first | exact ⟨rfl, _, World.drewN_drewN _ _ _⟩ | exact ⟨rfl, _, Eq.trans (World.drewN_drewN _ _ _) (congrArg (World.drewN _) (Nat.add_assoc _ _ _))⟩))))
                  go_ret
                  exact ⟨by first | rfl | (simp [errW_none, errW_some] <;> rfl) | (simp [*, errW_none, errW_some] <;> rfl), by repeat (first | (with_reducible first | exact HB.out | apply below_alloc | apply pw_below_drewN | apply below_drew1) | exact HB.out)⟩
        · rw [if_neg c7] at H
          have c7b0 : decide (x5_1 < 5) = false := decide_eq_false c7
          clear c7
          obtain rfl := Option.some.inj H
          go_wp2
          repeat (go_quiet (fail); try go_wp2)
          go_ret
          exact ⟨by first | rfl | (simp [errW_none, errW_some] <;> rfl) | (simp [*, errW_none, errW_some] <;> rfl), by repeat (first | (with_reducible first | exact HB.out | apply below_alloc | apply pw_below_drewN | apply below_drew1) | exact HB.out)⟩
  · replace c3 := Bool.eq_false_iff.mpr c3
    subst c3
    have H1 : (some false) = some r := by rw [if_neg (show ¬ (false = true) by decide)] at H; exact H
    clear H
    have H := H1
    clear H1
    obtain rfl := Option.some.inj H
    go_enter Try.func3, Try.ntmps3
    go_wp2_with (first | (go_at_call 14; (with_reducible refine (annalistlaw07_awake.calls  false _ A2.out).mono ?_); rintro e w50 ⟨rfl, hb⟩; have n0_ := Aside0.mk (below_step (by repeat (first | (with_reducible first | exact HB.out | apply below_alloc | apply pw_below_drewN | apply below_drew1) | exact HB.out)) hb); clear HB; have HB := n0_; clear n0_; (try clear hb); (try clear hb2); (try clear hk); (try clear hi)))
    repeat (go_quiet (first | (go_at_call 14; (with_reducible refine (annalistlaw07_awake.calls  false _ A2.out).mono ?_); rintro e w50 ⟨rfl, hb⟩; have n0_ := Aside0.mk (below_step (by repeat (first | (with_reducible first | exact HB.out | apply below_alloc | apply pw_below_drewN | apply below_drew1) | exact HB.out)) hb); clear HB; have HB := n0_; clear n0_; (try clear hb); (try clear hb2); (try clear hk); (try clear hi))); try go_wp2_with (first | (go_at_call 14; (with_reducible refine (annalistlaw07_awake.calls  false _ A2.out).mono ?_); rintro e w50 ⟨rfl, hb⟩; have n0_ := Aside0.mk (below_step (by repeat (first | (with_reducible first | exact HB.out | apply below_alloc | apply pw_below_drewN | apply below_drew1) | exact HB.out)) hb); clear HB; have HB := n0_; clear n0_; (try clear hb); (try clear hb2); (try clear hk); (try clear hi))))
    go_ret
    exact ⟨by first | rfl | (simp [errW_none, errW_some] <;> rfl) | (simp [*, errW_none, errW_some] <;> rfl), by repeat (first | (with_reducible first | exact HB.out | apply below_alloc | apply pw_below_drewN | apply below_drew1) | exact HB.out)⟩

/-- THE ONE PURE STATEMENT of annalistlaw07_TileCovers: yours. -/
def annalistlaw07_TileCovers.Pure : Prop := ∀ (a0 : Int), (Lit.int .u8 a0).wf = true → ∃ k, annalistlaw07_TileCovers.f k a0 = some true
theorem annalistlaw07_TileCovers.walk (P : annalistlaw07_TileCovers.Pure) (a0 : Int) (w : World) (w0 : (Lit.int .u8 a0).wf = true) :
    Calls Try.prog 3 #[.int .u8 a0] w fun e w' => e = .returned (.bool true) ∧ Below w.heap.size w w' := by
  obtain ⟨k, h⟩ := P a0 w0
  refine (annalistlaw07_TileCovers.calls k a0 true w h).mono ?_
  rintro e w' ⟨rfl, hd⟩
  exact ⟨rfl, hd⟩

end Go.Proofs.Ytolapikiflodfaa.PTileCovers
