import Derived.Test.YtpflopenjbealaaQVoteSetsx0
import Derived.Test.YtpflopenjbealaaQVoteSetsx1
namespace Go.Proofs.Ytpflopenjbealaa.PVoteSets
open Go.RowKit Go.Proofs.YtpflopenjbealaaW.PrintWords Go.Proofs.YtpflopenjbealaaW.PrintLast Go.Proofs.YtpflopenjbealaaW.PrintMore
attribute [local go_sem] max2_int min2_int max_two min_two max_three min_three max_four min_four   -- for this text's walks alone
set_option linter.unusedVariables false
set_option linter.unusedSimpArgs false

/-! ### annalistlaw16_VoteSets: function 5 -/
mutual
def annalistlaw16_VoteSets.j0 : Nat → Int → Int → List Bool → Int → Bool → Option (Bool)
  | 0, _, _, _, _, _ => none
  | k + 1, x1, x2, x7, x8, x9 => (annalistlaw16_awake.f).bind fun t116 => (if t116 = true then ((vote_Set_Has.f x8 x1).bind fun t117 => (if x9 = true then (if 0 ≤ (mx (mn x1 62) 0) then (if (mx (mn x1 62) 0) < (x7.length : Int) then (if (t117 != (rdOf false x7 (mx (mn x1 62) 0))) = true then (annalistlaw16_VoteSets.j1 k x1 x2 x7 x8 true) else ((vote_Set_Len.f x8).bind fun t119 => ((annalistref16_Count.f k x7 63).bind fun t120 => (annalistlaw16_VoteSets.j1 k x1 x2 x7 x8 (t119 != t120))))) else (none)) else (none)) else (if (t117 != false) = true then (annalistlaw16_VoteSets.j1 k x1 x2 x7 x8 true) else ((vote_Set_Len.f x8).bind fun t121 => ((annalistref16_Count.f k x7 63).bind fun t122 => (annalistlaw16_VoteSets.j1 k x1 x2 x7 x8 (t121 != t122))))))) else (annalistlaw16_VoteSets.j1 k x1 x2 x7 x8 true))
def annalistlaw16_VoteSets.j1 : Nat → Int → Int → List Bool → Int → Bool → Option (Bool)
  | 0, _, _, _, _, _ => none
  | k + 1, x1, x2, x7, x8, x45 => if x45 = true then (some false) else ((vote_Set_With.f x8 x1).bind fun t123 => ((vote_Set_Within.f x8 x2).bind fun t124 => (annalistlaw16_VoteSets.l0 k x1 x2 x7 x8 t123 t124 0)))
def annalistlaw16_VoteSets.l0 : Nat → Int → Int → List Bool → Int → Int → Int → Int → Option (Bool)
  | 0, _, _, _, _, _, _, _ => none
  | k + 1, x1, x2, x7, x8, x10, x11, x12 => if x12 < 63 then ((vote_Set_Has.f x10 x12).bind fun t125 => (if 0 ≤ x12 then (if x12 < (x7.length : Int) then (if rdOf false x7 x12 = true then (if (t125 != true) = true then (some false) else ((vote_Set_Has.f x11 x12).bind fun t127 => (if (t127 != (decide (x12 < x2))) = true then (some false) else (annalistlaw16_VoteSets.l0 k x1 x2 x7 x8 x10 x11 (wrap64 (x12 + 1)))))) else (if (t125 != (x12 == x1)) = true then (some false) else ((vote_Set_Has.f x11 x12).bind fun t129 => (if (t129 != false) = true then (some false) else (annalistlaw16_VoteSets.l0 k x1 x2 x7 x8 x10 x11 (wrap64 (x12 + 1))))))) else (none)) else (none))) else ((vote_Majority.f x2).bind fun t131 => ((annalistref16_Majority.f x2).bind fun t132 => (if t131 = t132 then ((vote_Enough.f x8 x2).bind fun t133 => ((annalistref16_Count.f k x7 x2).bind fun t134 => ((annalistref16_Majority.f x2).bind fun t135 => (some (t133 == (decide (t134 ≥ t135))))))) else (some false))))
end
def annalistlaw16_VoteSets.f (k : Nat) (a0 : Int) (a1 : Int) (a2 : Int) : Option (Bool) := (annalistref16_Nodes.f k a0).bind fun t113 => (if a1 ≥ 0 then (annalistlaw16_VoteSets.j0 k a1 a2 t113 a0 (decide (a1 < 63))) else (annalistlaw16_VoteSets.j0 k a1 a2 t113 a0 false))
theorem annalistlaw16_VoteSets.mono_l : ∀ k, (∀ y0 y1 y2 y3 y4, LeO (annalistlaw16_VoteSets.j0 k y0 y1 y2 y3 y4) (annalistlaw16_VoteSets.j0 (k + 1) y0 y1 y2 y3 y4)) ∧ (∀ y0 y1 y2 y3 y4, LeO (annalistlaw16_VoteSets.j1 k y0 y1 y2 y3 y4) (annalistlaw16_VoteSets.j1 (k + 1) y0 y1 y2 y3 y4)) ∧ (∀ y0 y1 y2 y3 y4 y5 y6, LeO (annalistlaw16_VoteSets.l0 k y0 y1 y2 y3 y4 y5 y6) (annalistlaw16_VoteSets.l0 (k + 1) y0 y1 y2 y3 y4 y5 y6))
  | 0 => ⟨fun _ _ _ _ _ r h => by simp [annalistlaw16_VoteSets.j0] at h, fun _ _ _ _ _ r h => by simp [annalistlaw16_VoteSets.j1] at h, fun _ _ _ _ _ _ _ r h => by simp [annalistlaw16_VoteSets.l0] at h⟩
  | k + 1 => by
    obtain ⟨ih0, ih1, ih2⟩ := annalistlaw16_VoteSets.mono_l k
    refine ⟨?_, ?_, ?_⟩
    · intro y0 y1 y2 y3 y4
      unfold annalistlaw16_VoteSets.j0
      repeat' first
      | (with_reducible exact ih0 _ _ _ _ _)
      | (with_reducible exact ih1 _ _ _ _ _)
      | (with_reducible exact ih2 _ _ _ _ _ _ _)
      | (with_reducible exact annalistref16_Count.mono _ _ _)
      | (with_reducible exact annalistref16_Nodes.mono _ _)
      | (with_reducible exact LeO.refl _)
      | (with_reducible exact LeO.none _)
      | (with_reducible refine LeO.ite ?_ ?_)
      | (with_reducible refine LeO.bind ?_ (fun _ => ?_))
      | exact ih0 _ _ _ _ _
      | exact ih1 _ _ _ _ _
      | exact ih2 _ _ _ _ _ _ _
      | exact annalistref16_Count.mono _ _ _
      | exact annalistref16_Nodes.mono _ _
      | exact LeO.none _
      | refine LeO.ite ?_ ?_
      | refine LeO.bind ?_ (fun _ => ?_)
    · intro y0 y1 y2 y3 y4
      unfold annalistlaw16_VoteSets.j1
      repeat' first
      | (with_reducible exact ih0 _ _ _ _ _)
      | (with_reducible exact ih1 _ _ _ _ _)
      | (with_reducible exact ih2 _ _ _ _ _ _ _)
      | (with_reducible exact annalistref16_Count.mono _ _ _)
      | (with_reducible exact annalistref16_Nodes.mono _ _)
      | (with_reducible exact LeO.refl _)
      | (with_reducible exact LeO.none _)
      | (with_reducible refine LeO.ite ?_ ?_)
      | (with_reducible refine LeO.bind ?_ (fun _ => ?_))
      | exact ih0 _ _ _ _ _
      | exact ih1 _ _ _ _ _
      | exact ih2 _ _ _ _ _ _ _
      | exact annalistref16_Count.mono _ _ _
      | exact annalistref16_Nodes.mono _ _
      | exact LeO.none _
      | refine LeO.ite ?_ ?_
      | refine LeO.bind ?_ (fun _ => ?_)
    · intro y0 y1 y2 y3 y4 y5 y6
      unfold annalistlaw16_VoteSets.l0
      repeat' first
      | (with_reducible exact ih0 _ _ _ _ _)
      | (with_reducible exact ih1 _ _ _ _ _)
      | (with_reducible exact ih2 _ _ _ _ _ _ _)
      | (with_reducible exact annalistref16_Count.mono _ _ _)
      | (with_reducible exact annalistref16_Nodes.mono _ _)
      | (with_reducible exact LeO.refl _)
      | (with_reducible exact LeO.none _)
      | (with_reducible refine LeO.ite ?_ ?_)
      | (with_reducible refine LeO.bind ?_ (fun _ => ?_))
      | exact ih0 _ _ _ _ _
      | exact ih1 _ _ _ _ _
      | exact ih2 _ _ _ _ _ _ _
      | exact annalistref16_Count.mono _ _ _
      | exact annalistref16_Nodes.mono _ _
      | exact LeO.none _
      | refine LeO.ite ?_ ?_
      | refine LeO.bind ?_ (fun _ => ?_)
theorem annalistlaw16_VoteSets.mono : ∀ a0 a1 a2 k, LeO (annalistlaw16_VoteSets.f k a0 a1 a2) (annalistlaw16_VoteSets.f (k + 1) a0 a1 a2) := by
  intro a0 a1 a2 k
  obtain ⟨ih0, ih1, ih2⟩ := annalistlaw16_VoteSets.mono_l k
  unfold annalistlaw16_VoteSets.f
  repeat' first
      | (with_reducible exact ih0 _ _ _ _ _)
      | (with_reducible exact ih1 _ _ _ _ _)
      | (with_reducible exact ih2 _ _ _ _ _ _ _)
      | (with_reducible exact annalistref16_Count.mono _ _ _)
      | (with_reducible exact annalistref16_Nodes.mono _ _)
      | (with_reducible exact LeO.refl _)
      | (with_reducible exact LeO.none _)
      | (with_reducible refine LeO.ite ?_ ?_)
      | (with_reducible refine LeO.bind ?_ (fun _ => ?_))
      | exact ih0 _ _ _ _ _
      | exact ih1 _ _ _ _ _
      | exact ih2 _ _ _ _ _ _ _
      | exact annalistref16_Count.mono _ _ _
      | exact annalistref16_Nodes.mono _ _
      | exact LeO.none _
      | refine LeO.ite ?_ ?_
      | refine LeO.bind ?_ (fun _ => ?_)
set_option maxHeartbeats 8000000 in
set_option maxRecDepth 100000 in
theorem annalistlaw16_VoteSets.calls (k : Nat) (a0 : Int) (a1 : Int) (a2 : Int) (r : Bool) (w : World) (h : annalistlaw16_VoteSets.f k a0 a1 a2 = some r) :
    Calls Try.prog 5 #[.int .u64 a0, .int .i64 a1, .int .i64 a2] w fun e w' => e = .returned (.bool r) ∧ Below w.heap.size w w' := by
  have HB := Aside0.mk (Below.refl w.heap.size w)
  have H : ((annalistref16_Nodes.f k a0).bind fun t113 => (if a1 ≥ 0 then (annalistlaw16_VoteSets.j0 k a1 a2 t113 a0 (decide (a1 < 63))) else (annalistlaw16_VoteSets.j0 k a1 a2 t113 a0 false))) = some r := h
  clear h
  replace H := Option.bind_eq_some_iff.mp H
  obtain ⟨t113, A40, H⟩ := H
  replace H : (if a1 ≥ 0 then (annalistlaw16_VoteSets.j0 k a1 a2 t113 a0 (decide (a1 < 63))) else (annalistlaw16_VoteSets.j0 k a1 a2 t113 a0 false)) = some r := H
  have A4 := Aside0.mk A40
  clear A40
  have HC5 := Aside0.mk H
  clear H
  go_enter Try.func5, Try.ntmps5
  go_upto_region 3 with (first | (go_at_call 16; (with_reducible refine (annalistref16_Nodes.calls k a0 t113 _ A4.out).mono ?_); rintro e w6 ⟨v114, rfl, ho0, hb⟩; have n0_ := Aside0.mk (Kd.R_lower ho0 (below_size (by repeat (first | (with_reducible first | exact HB.out | apply below_alloc | apply pw_below_drewN | apply below_drew1) | exact HB.out)))); have n1_ := Aside0.mk (below_step (by repeat (first | (with_reducible first | exact HB.out | apply below_alloc | apply pw_below_drewN | apply below_drew1) | exact HB.out)) hb); clear HB; have HO115 := n0_; have HB := n1_; clear n0_ n1_; (try clear hb); (try clear hb2); (try clear hk); (try clear hi); (try clear ho0)))
  repeat (go_quiet (first | (go_at_call 16; (with_reducible refine (annalistref16_Nodes.calls k a0 t113 _ A4.out).mono ?_); rintro e w6 ⟨v114, rfl, ho0, hb⟩; have n0_ := Aside0.mk (Kd.R_lower ho0 (below_size (by repeat (first | (with_reducible first | exact HB.out | apply below_alloc | apply pw_below_drewN | apply below_drew1) | exact HB.out)))); have n1_ := Aside0.mk (below_step (by repeat (first | (with_reducible first | exact HB.out | apply below_alloc | apply pw_below_drewN | apply below_drew1) | exact HB.out)) hb); clear HB; have HO115 := n0_; have HB := n1_; clear n0_ n1_; (try clear hb); (try clear hb2); (try clear hk); (try clear hi); (try clear ho0))); go_upto_region 3 with (first | (go_at_call 16; (with_reducible refine (annalistref16_Nodes.calls k a0 t113 _ A4.out).mono ?_); rintro e w6 ⟨v114, rfl, ho0, hb⟩; have n0_ := Aside0.mk (Kd.R_lower ho0 (below_size (by repeat (first | (with_reducible first | exact HB.out | apply below_alloc | apply pw_below_drewN | apply below_drew1) | exact HB.out)))); have n1_ := Aside0.mk (below_step (by repeat (first | (with_reducible first | exact HB.out | apply below_alloc | apply pw_below_drewN | apply below_drew1) | exact HB.out)) hb); clear HB; have HO115 := n0_; have HB := n1_; clear n0_ n1_; (try clear hb); (try clear hb2); (try clear hk); (try clear hi); (try clear ho0))))
  (try simp only [Act.put, List.setIfInBounds_toArray, List.set_cons_zero, List.set_cons_succ])
  go_cut [9] (fun v9 wc => ∃ (kq : Nat) (x9_4 : Bool), v9 = .bool x9_4 ∧ Aside0 (annalistlaw16_VoteSets.j0 kq a1 a2 t113 a0 x9_4 = some r) ∧ Aside0 (kq ≤ k) ∧ Aside0 (Kd.R Kd.bool 4 wc w.heap.size (fun _ => True) v114 t113) ∧ Aside0 (Below w.heap.size w wc))
  case first =>
    have H := HC5.out
    clear HC5
    by_cases c7 : a1 ≥ 0
    · rw [if_pos c7] at H
      have c7b0 : decide (0 ≤ a1) = true := decide_eq_true c7
      clear c7
      (first | rw [c7b0] | (simp only [i64_w, i32_w]; rw [c7b0]) | skip)
      have H' := Aside0.mk H
      clear H
      go_wp2
      repeat (go_quiet (fail); try go_wp2)
      go_meet
      case rel => exact ⟨_, (decide (a1 < 63)), (by first | rfl | (simp; done) | (simp [*]; done)), H', ⟨by first | omega | exact Nat.le_refl _⟩, ⟨by (with_reducible repeat (first | apply Kd.R_alloc | apply Kd.R_drewN | apply Kd.R_drew)); exact HO115.out⟩, ⟨by repeat (first | (with_reducible first | exact HB.out | apply below_alloc | apply pw_below_drewN | apply below_drew1) | exact HB.out)⟩⟩
    · rw [if_neg c7] at H
      have c7b0 : decide (0 ≤ a1) = false := decide_eq_false c7
      clear c7
      (first | rw [c7b0] | (simp only [i64_w, i32_w]; rw [c7b0]) | skip)
      have H' := Aside0.mk H
      clear H
      go_wp2
      repeat (go_quiet (fail); try go_wp2)
      go_meet
      case rel => exact ⟨_, (false), (by first | rfl | (simp; done) | (simp [*]; done)), H', ⟨by first | omega | exact Nat.le_refl _⟩, ⟨by (with_reducible repeat (first | apply Kd.R_alloc | apply Kd.R_drewN | apply Kd.R_drew)); exact HO115.out⟩, ⟨by repeat (first | (with_reducible first | exact HB.out | apply below_alloc | apply pw_below_drewN | apply below_drew1) | exact HB.out)⟩⟩
  case rest =>
    clear HC5
    try clear p2
    try clear c5
    try clear c7
    try clear c7b0
    obtain ⟨kq, x9_4, rfl, HA, HJ4, HO_7, HB⟩ := hcut
    cases kq with
    | zero => exact absurd HA.out (by simp [annalistlaw16_VoteSets.j0])
    | succ kj4 =>
      have H := HA.out
      clear HA
      simp only [annalistlaw16_VoteSets.j0] at H
      have HC8 := Aside0.mk H
      clear H
      go_upto_region 4 with (fail)
      repeat (go_quiet (fail); go_upto_region 4 with (fail))
      go_cut [45] (fun v45 wc => ∃ (kq : Nat) (x45_7 : Bool), v45 = .bool x45_7 ∧ Aside0 (annalistlaw16_VoteSets.j1 kq a1 a2 t113 a0 x45_7 = some r) ∧ Aside0 (kq ≤ kj4) ∧ Aside0 (Kd.R Kd.bool 4 wc w.heap.size (fun _ => True) v114 t113) ∧ Aside0 (Below w.heap.size w wc))
      case first =>
        have H := HC8.out
        clear HC8
        replace H := Option.bind_eq_some_iff.mp H
        obtain ⟨t116, A90, H⟩ := H
        replace H : (if t116 = true then ((vote_Set_Has.f a0 a1).bind fun t117 => (if x9_4 = true then (if 0 ≤ (mx (mn a1 62) 0) then (if (mx (mn a1 62) 0) < (t113.length : Int) then (if (t117 != (rdOf false t113 (mx (mn a1 62) 0))) = true then (annalistlaw16_VoteSets.j1 kj4 a1 a2 t113 a0 true) else ((vote_Set_Len.f a0).bind fun t119 => ((annalistref16_Count.f kj4 t113 63).bind fun t120 => (annalistlaw16_VoteSets.j1 kj4 a1 a2 t113 a0 (t119 != t120))))) else (none)) else (none)) else (if (t117 != false) = true then (annalistlaw16_VoteSets.j1 kj4 a1 a2 t113 a0 true) else ((vote_Set_Len.f a0).bind fun t121 => ((annalistref16_Count.f kj4 t113 63).bind fun t122 => (annalistlaw16_VoteSets.j1 kj4 a1 a2 t113 a0 (t121 != t122))))))) else (annalistlaw16_VoteSets.j1 kj4 a1 a2 t113 a0 true)) = some r := H
        have A9 := Aside0.mk A90
        clear A90
        by_cases c10 : t116 = true
        · subst c10
          have H1 : ((vote_Set_Has.f a0 a1).bind fun t117 => (if x9_4 = true then (if 0 ≤ (mx (mn a1 62) 0) then (if (mx (mn a1 62) 0) < (t113.length : Int) then (if (t117 != (rdOf false t113 (mx (mn a1 62) 0))) = true then (annalistlaw16_VoteSets.j1 kj4 a1 a2 t113 a0 true) else ((vote_Set_Len.f a0).bind fun t119 => ((annalistref16_Count.f kj4 t113 63).bind fun t120 => (annalistlaw16_VoteSets.j1 kj4 a1 a2 t113 a0 (t119 != t120))))) else (none)) else (none)) else (if (t117 != false) = true then (annalistlaw16_VoteSets.j1 kj4 a1 a2 t113 a0 true) else ((vote_Set_Len.f a0).bind fun t121 => ((annalistref16_Count.f kj4 t113 63).bind fun t122 => (annalistlaw16_VoteSets.j1 kj4 a1 a2 t113 a0 (t121 != t122))))))) = some r := by rw [if_pos rfl] at H; exact H
          clear H
          have H := H1
          clear H1
          replace H := Option.bind_eq_some_iff.mp H
          obtain ⟨t117, A110, H⟩ := H
          replace H : (if x9_4 = true then (if 0 ≤ (mx (mn a1 62) 0) then (if (mx (mn a1 62) 0) < (t113.length : Int) then (if (t117 != (rdOf false t113 (mx (mn a1 62) 0))) = true then (annalistlaw16_VoteSets.j1 kj4 a1 a2 t113 a0 true) else ((vote_Set_Len.f a0).bind fun t119 => ((annalistref16_Count.f kj4 t113 63).bind fun t120 => (annalistlaw16_VoteSets.j1 kj4 a1 a2 t113 a0 (t119 != t120))))) else (none)) else (none)) else (if (t117 != false) = true then (annalistlaw16_VoteSets.j1 kj4 a1 a2 t113 a0 true) else ((vote_Set_Len.f a0).bind fun t121 => ((annalistref16_Count.f kj4 t113 63).bind fun t122 => (annalistlaw16_VoteSets.j1 kj4 a1 a2 t113 a0 (t121 != t122)))))) = some r := H
          have A11 := Aside0.mk A110
          clear A110
          by_cases c12 : x9_4 = true
          · subst c12
            have H1 : (if 0 ≤ (mx (mn a1 62) 0) then (if (mx (mn a1 62) 0) < (t113.length : Int) then (if (t117 != (rdOf false t113 (mx (mn a1 62) 0))) = true then (annalistlaw16_VoteSets.j1 kj4 a1 a2 t113 a0 true) else ((vote_Set_Len.f a0).bind fun t119 => ((annalistref16_Count.f kj4 t113 63).bind fun t120 => (annalistlaw16_VoteSets.j1 kj4 a1 a2 t113 a0 (t119 != t120))))) else (none)) else (none)) = some r := by rw [if_pos rfl] at H; exact H
            clear H
            have H := H1
            clear H1
            obtain ⟨ji13, hji13⟩ : ∃ j_ : Int, (mn a1 62) = j_ := ⟨_, rfl⟩
            replace H : (if 0 ≤ (mx (ji13) 0) then (if (mx (ji13) 0) < (t113.length : Int) then (if (t117 != (rdOf false t113 (mx (ji13) 0))) = true then (annalistlaw16_VoteSets.j1 kj4 a1 a2 t113 a0 true) else ((vote_Set_Len.f a0).bind fun t119 => ((annalistref16_Count.f kj4 t113 63).bind fun t120 => (annalistlaw16_VoteSets.j1 kj4 a1 a2 t113 a0 (t119 != t120))))) else (none)) else (none)) = some r := by first | (rw [hji13] at H; exact H) | (simp only [hji13] at H ⊢; exact H)
            (try rw [hji13] at A9)
            (try rw [hji13] at A11)
            have hji13_ : (if 62 < a1 then 62 else a1) = ji13 := hji13
            obtain ⟨ji14, hji14⟩ : ∃ j_ : Int, (mx (ji13) 0) = j_ := ⟨_, rfl⟩
            replace H : (if 0 ≤ (ji14) then (if (ji14) < (t113.length : Int) then (if (t117 != (rdOf false t113 (ji14))) = true then (annalistlaw16_VoteSets.j1 kj4 a1 a2 t113 a0 true) else ((vote_Set_Len.f a0).bind fun t119 => ((annalistref16_Count.f kj4 t113 63).bind fun t120 => (annalistlaw16_VoteSets.j1 kj4 a1 a2 t113 a0 (t119 != t120))))) else (none)) else (none)) = some r := by first | (rw [hji14] at H; exact H) | (simp only [hji14] at H ⊢; exact H)
            (try rw [hji14] at A9)
            (try rw [hji14] at A11)
            have hji14_ : (if (ji13) < 0 then 0 else (ji13)) = ji14 := hji14
            by_cases c15 : 0 ≤ (ji14)
            · rw [if_pos c15] at H
              have c15b0 : decide (0 ≤ (ji14)) = true := decide_eq_true c15
              clear c15
              (first | rw [c15b0] | (simp only [i64_w, i32_w]; rw [c15b0]) | skip)
              by_cases c16 : (ji14) < (t113.length : Int)
              · rw [if_pos c16] at H
                have c16b0 : decide ((ji14) < (t113.length : Int)) = true := decide_eq_true c16
                clear c16
                by_cases c17 : (t117 != (rdOf false t113 (ji14))) = true
                · rw [if_pos c17] at H
                  have c17b0 : (t117 != (rdOf false t113 (ji14))) = true := c17
                  (try (have c17b1 : decide (t117 = (rdOf false t113 (ji14))) = false := by simpa using c17))
                  (try (have c17b2 : (t117 == (rdOf false t113 (ji14))) = false := by simpa using c17))
                  (try (have c17b3 : ¬ (t117 = (rdOf false t113 (ji14))) := by simpa using c17))
                  clear c17
                  have H' := Aside0.mk H
                  clear H
                  go_wp2_with (first | (go_at_call 10; (with_reducible refine (annalistlaw16_awake.calls  true _ A9.out).mono ?_); rintro e w18 ⟨rfl, hb⟩; have n0_ := Aside0.mk (Kd.R_below (by (with_reducible repeat (first | apply Kd.R_alloc | apply Kd.R_drewN | apply Kd.R_drew)); exact HO_7.out) hb); have n1_ := Aside0.mk (below_step (by repeat (first | (with_reducible first | exact HB.out | apply below_alloc | apply pw_below_drewN | apply below_drew1) | exact HB.out)) hb); clear HO_7; clear HB; have HO_7 := n0_; have HB := n1_; clear n0_ n1_; (try clear hb); (try clear hb2); (try clear hk); (try clear hi)) | (go_at_call 11; (with_reducible refine (vote_Set_Has.calls a0 a1 t117 _ A11.out).mono ?_); rintro e w' ⟨rfl, ⟨nd, rfl⟩⟩; (try first | exact ⟨rfl, _, World.drewN_drewN _ _ _⟩ | exact ⟨rfl, _, Eq.trans (World.drewN_drewN _ _ _) (congrArg (World.drewN _) (Nat.add_assoc _ _ _))⟩); obtain ⟨Ao19, co19, eo19⟩ := Kd.R_slice HO_7.out; subst eo19; have p118 : 0 ≤ ((ji14) : Int) := of_decide_eq_true (by first | (with_reducible assumption) | assumption); have q118 : (ji14) < (t113.length : Int) := of_decide_eq_true (by first | (with_reducible assumption) | assumption); obtain ⟨ad118, e118, hx118_0⟩ := Kd.at_bool (Kd.R_reads' HO_7.out).2.2 (ji14) p118 q118; cases e118; replace p118 := eq_true p118; replace q118 := eq_true q118))
                  repeat (go_quiet (first | (go_at_call 10; (with_reducible refine (annalistlaw16_awake.calls  true _ A9.out).mono ?_); rintro e w18 ⟨rfl, hb⟩; have n0_ := Aside0.mk (Kd.R_below (by (with_reducible repeat (first | apply Kd.R_alloc | apply Kd.R_drewN | apply Kd.R_drew)); exact HO_7.out) hb); have n1_ := Aside0.mk (below_step (by repeat (first | (with_reducible first | exact HB.out | apply below_alloc | apply pw_below_drewN | apply below_drew1) | exact HB.out)) hb); clear HO_7; clear HB; have HO_7 := n0_; have HB := n1_; clear n0_ n1_; (try clear hb); (try clear hb2); (try clear hk); (try clear hi)) | (go_at_call 11; (with_reducible refine (vote_Set_Has.calls a0 a1 t117 _ A11.out).mono ?_); rintro e w' ⟨rfl, ⟨nd, rfl⟩⟩; (try first | exact ⟨rfl, _, World.drewN_drewN _ _ _⟩ | exact ⟨rfl, _, Eq.trans (World.drewN_drewN _ _ _) (congrArg (World.drewN _) (Nat.add_assoc _ _ _))⟩); obtain ⟨Ao19, co19, eo19⟩ := Kd.R_slice HO_7.out; subst eo19; have p118 : 0 ≤ ((ji14) : Int) := of_decide_eq_true (by first | (with_reducible assumption) | assumption); have q118 : (ji14) < (t113.length : Int) := of_decide_eq_true (by first | (with_reducible assumption) | assumption); obtain ⟨ad118, e118, hx118_0⟩ := Kd.at_bool (Kd.R_reads' HO_7.out).2.2 (ji14) p118 q118; cases e118; replace p118 := eq_true p118; replace q118 := eq_true q118)); try go_wp2_with (first | (go_at_call 10; (with_reducible refine (annalistlaw16_awake.calls  true _ A9.out).mono ?_); rintro e w18 ⟨rfl, hb⟩; have n0_ := Aside0.mk (Kd.R_below (by (with_reducible repeat (first | apply Kd.R_alloc | apply Kd.R_drewN | apply Kd.R_drew)); exact HO_7.out) hb); have n1_ := Aside0.mk (below_step (by repeat (first | (with_reducible first | exact HB.out | apply below_alloc | apply pw_below_drewN | apply below_drew1) | exact HB.out)) hb); clear HO_7; clear HB; have HO_7 := n0_; have HB := n1_; clear n0_ n1_; (try clear hb); (try clear hb2); (try clear hk); (try clear hi)) | (go_at_call 11; (with_reducible refine (vote_Set_Has.calls a0 a1 t117 _ A11.out).mono ?_); rintro e w' ⟨rfl, ⟨nd, rfl⟩⟩; (try first | exact ⟨rfl, _, World.drewN_drewN _ _ _⟩ | exact ⟨rfl, _, Eq.trans (World.drewN_drewN _ _ _) (congrArg (World.drewN _) (Nat.add_assoc _ _ _))⟩); obtain ⟨Ao19, co19, eo19⟩ := Kd.R_slice HO_7.out; subst eo19; have p118 : 0 ≤ ((ji14) : Int) := of_decide_eq_true (by first | (with_reducible assumption) | assumption); have q118 : (ji14) < (t113.length : Int) := of_decide_eq_true (by first | (with_reducible assumption) | assumption); obtain ⟨ad118, e118, hx118_0⟩ := Kd.at_bool (Kd.R_reads' HO_7.out).2.2 (ji14) p118 q118; cases e118; replace p118 := eq_true p118; replace q118 := eq_true q118)))
                  go_meet
                  case rel => exact ⟨_, (true), (by first | rfl | (simp; done) | (simp [*]; done)), H', ⟨by have := HJ4.out; first | omega | exact Nat.le_refl _⟩, ⟨by (with_reducible repeat (first | apply Kd.R_alloc | apply Kd.R_drewN | apply Kd.R_drew)); exact HO_7.out⟩, ⟨by repeat (first | (with_reducible first | exact HB.out | apply below_alloc | apply pw_below_drewN | apply below_drew1) | exact HB.out)⟩⟩
                · rw [if_neg c17] at H
                  have c17b0 : (t117 != (rdOf false t113 (ji14))) = false := by simpa using c17
                  (try (have c17b1 : decide (t117 = (rdOf false t113 (ji14))) = true := by simpa using c17))
                  (try (have c17b2 : (t117 == (rdOf false t113 (ji14))) = true := by simpa using c17))
                  clear c17
                  replace H := Option.bind_eq_some_iff.mp H
                  obtain ⟨t119, A200, H⟩ := H
                  replace H : ((annalistref16_Count.f kj4 t113 63).bind fun t120 => (annalistlaw16_VoteSets.j1 kj4 a1 a2 t113 a0 (t119 != t120))) = some r := H
                  have A20 := Aside0.mk A200
                  clear A200
                  replace H := Option.bind_eq_some_iff.mp H
                  obtain ⟨t120, A210, H⟩ := H
                  replace H : (annalistlaw16_VoteSets.j1 kj4 a1 a2 t113 a0 (t119 != t120)) = some r := H
                  have A21 := Aside0.mk A210
                  clear A210
                  have H' := Aside0.mk H
                  clear H
                  go_wp2_with (first | (go_at_call 10; (with_reducible refine (annalistlaw16_awake.calls  true _ A9.out).mono ?_); rintro e w22 ⟨rfl, hb⟩; have n0_ := Aside0.mk (Kd.R_below (by (with_reducible repeat (first | apply Kd.R_alloc | apply Kd.R_drewN | apply Kd.R_drew)); exact HO_7.out) hb); have n1_ := Aside0.mk (below_step (by repeat (first | (with_reducible first | exact HB.out | apply below_alloc | apply pw_below_drewN | apply below_drew1) | exact HB.out)) hb); clear HO_7; clear HB; have HO_7 := n0_; have HB := n1_; clear n0_ n1_; (try clear hb); (try clear hb2); (try clear hk); (try clear hi)) | (go_at_call 11; (with_reducible refine (vote_Set_Has.calls a0 a1 t117 _ A11.out).mono ?_); rintro e w' ⟨rfl, ⟨nd, rfl⟩⟩; (try first | exact ⟨rfl, _, World.drewN_drewN _ _ _⟩ | exact ⟨rfl, _, Eq.trans (World.drewN_drewN _ _ _) (congrArg (World.drewN _) (Nat.add_assoc _ _ _))⟩); obtain ⟨Ao23, co23, eo23⟩ := Kd.R_slice HO_7.out; subst eo23; have p118 : 0 ≤ ((ji14) : Int) := of_decide_eq_true (by first | (with_reducible assumption) | assumption); have q118 : (ji14) < (t113.length : Int) := of_decide_eq_true (by first | (with_reducible assumption) | assumption); obtain ⟨ad118, e118, hx118_0⟩ := Kd.at_bool (Kd.R_reads' HO_7.out).2.2 (ji14) p118 q118; cases e118; replace p118 := eq_true p118; replace q118 := eq_true q118) | (go_at_call 13; (with_reducible refine (vote_Set_Len.calls a0 t119 _ A20.out).mono ?_); rintro e w' ⟨rfl, ⟨nd, rfl⟩⟩; (try first | exact ⟨rfl, _, World.drewN_drewN _ _ _⟩ | exact ⟨rfl, _, Eq.trans (World.drewN_drewN _ _ _) (congrArg (World.drewN _) (Nat.add_assoc _ _ _))⟩)) | (go_at_call 17; (with_reducible refine (annalistref16_Count.calls kj4 _ _ t113 63 t120 _ ?side1 ?side2 A21.out).mono ?_); (case side1 => repeat (first | exact (Kd.R_reads' HO_7.out).2.2 | (with_reducible refine Kd.C_alloc ?_ _) | (with_reducible refine Kd.C_drewN ?_ _) | (with_reducible refine Kd.C_drew ?_))); (case side2 => exact (Kd.R_reads' HO_7.out).2.1); rintro e w' ⟨rfl, ⟨nd, rfl⟩⟩; (try first | exact ⟨rfl, _, World.drewN_drewN _ _ _⟩ | exact ⟨rfl, _, Eq.trans (World.drewN_drewN _ _ _) (congrArg (World.drewN _) (Nat.add_assoc _ _ _))⟩)))
                  repeat (go_quiet (first | (go_at_call 10; (with_reducible refine (annalistlaw16_awake.calls  true _ A9.out).mono ?_); rintro e w22 ⟨rfl, hb⟩; have n0_ := Aside0.mk (Kd.R_below (by (with_reducible repeat (first | apply Kd.R_alloc | apply Kd.R_drewN | apply Kd.R_drew)); exact HO_7.out) hb); have n1_ := Aside0.mk (below_step (by repeat (first | (with_reducible first | exact HB.out | apply below_alloc | apply pw_below_drewN | apply below_drew1) | exact HB.out)) hb); clear HO_7; clear HB; have HO_7 := n0_; have HB := n1_; clear n0_ n1_; (try clear hb); (try clear hb2); (try clear hk); (try clear hi)) | (go_at_call 11; (with_reducible refine (vote_Set_Has.calls a0 a1 t117 _ A11.out).mono ?_); rintro e w' ⟨rfl, ⟨nd, rfl⟩⟩; (try first | exact ⟨rfl, _, World.drewN_drewN _ _ _⟩ | exact ⟨rfl, _, Eq.trans (World.drewN_drewN _ _ _) (congrArg (World.drewN _) (Nat.add_assoc _ _ _))⟩); obtain ⟨Ao23, co23, eo23⟩ := Kd.R_slice HO_7.out; subst eo23; have p118 : 0 ≤ ((ji14) : Int) := of_decide_eq_true (by first | (with_reducible assumption) | assumption); have q118 : (ji14) < (t113.length : Int) := of_decide_eq_true (by first | (with_reducible assumption) | assumption); obtain ⟨ad118, e118, hx118_0⟩ := Kd.at_bool (Kd.R_reads' HO_7.out).2.2 (ji14) p118 q118; cases e118; replace p118 := eq_true p118; replace q118 := eq_true q118) | (go_at_call 13; (with_reducible refine (vote_Set_Len.calls a0 t119 _ A20.out).mono ?_); rintro e w' ⟨rfl, ⟨nd, rfl⟩⟩; (try first | exact ⟨rfl, _, World.drewN_drewN _ _ _⟩ | exact ⟨rfl, _, Eq.trans (World.drewN_drewN _ _ _) (congrArg (World.drewN _) (Nat.add_assoc _ _ _))⟩)) | (go_at_call 17; (with_reducible refine (annalistref16_Count.calls kj4 _ _ t113 63 t120 _ ?side1 ?side2 A21.out).mono ?_); (case side1 => repeat (first | exact (Kd.R_reads' HO_7.out).2.2 | (with_reducible refine Kd.C_alloc ?_ _) | (with_reducible refine Kd.C_drewN ?_ _) | (with_reducible refine Kd.C_drew ?_))); (case side2 => exact (Kd.R_reads' HO_7.out).2.1); rintro e w' ⟨rfl, ⟨nd, rfl⟩⟩; (try first | exact ⟨rfl, _, World.drewN_drewN _ _ _⟩ | exact ⟨rfl, _, Eq.trans (World.drewN_drewN _ _ _) (congrArg (World.drewN _) (Nat.add_assoc _ _ _))⟩))); try go_wp2_with (first | (go_at_call 10; (with_reducible refine (annalistlaw16_awake.calls  true _ A9.out).mono ?_); rintro e w22 ⟨rfl, hb⟩; have n0_ := Aside0.mk (Kd.R_below (by (with_reducible repeat (first | apply Kd.R_alloc | apply Kd.R_drewN | apply Kd.R_drew)); exact HO_7.out) hb); have n1_ := Aside0.mk (below_step (by repeat (first | (with_reducible first | exact HB.out | apply below_alloc | apply pw_below_drewN | apply below_drew1) | exact HB.out)) hb); clear HO_7; clear HB; have HO_7 := n0_; have HB := n1_; clear n0_ n1_; (try clear hb); (try clear hb2); (try clear hk); (try clear hi)) | (go_at_call 11; (with_reducible refine (vote_Set_Has.calls a0 a1 t117 _ A11.out).mono ?_); rintro e w' ⟨rfl, ⟨nd, rfl⟩⟩; (try first | exact ⟨rfl, _, World.drewN_drewN _ _ _⟩ | exact ⟨rfl, _, Eq.trans (World.drewN_drewN _ _ _) (congrArg (World.drewN _) (Nat.add_assoc _ _ _))⟩); obtain ⟨Ao23, co23, eo23⟩ := Kd.R_slice HO_7.out; subst eo23; have p118 : 0 ≤ ((ji14) : Int) := of_decide_eq_true (by first | (with_reducible assumption) | assumption); have q118 : (ji14) < (t113.length : Int) := of_decide_eq_true (by first | (with_reducible assumption) | assumption); obtain ⟨ad118, e118, hx118_0⟩ := Kd.at_bool (Kd.R_reads' HO_7.out).2.2 (ji14) p118 q118; cases e118; replace p118 := eq_true p118; replace q118 := eq_true q118) | (go_at_call 13; (with_reducible refine (vote_Set_Len.calls a0 t119 _ A20.out).mono ?_); rintro e w' ⟨rfl, ⟨nd, rfl⟩⟩; (try first | exact ⟨rfl, _, World.drewN_drewN _ _ _⟩ | exact ⟨rfl, _, Eq.trans (World.drewN_drewN _ _ _) (congrArg (World.drewN _) (Nat.add_assoc _ _ _))⟩)) | (go_at_call 17; (with_reducible refine (annalistref16_Count.calls kj4 _ _ t113 63 t120 _ ?side1 ?side2 A21.out).mono ?_); (case side1 => repeat (first | exact (Kd.R_reads' HO_7.out).2.2 | (with_reducible refine Kd.C_alloc ?_ _) | (with_reducible refine Kd.C_drewN ?_ _) | (with_reducible refine Kd.C_drew ?_))); (case side2 => exact (Kd.R_reads' HO_7.out).2.1); rintro e w' ⟨rfl, ⟨nd, rfl⟩⟩; (try first | exact ⟨rfl, _, World.drewN_drewN _ _ _⟩ | exact ⟨rfl, _, Eq.trans (World.drewN_drewN _ _ _) (congrArg (World.drewN _) (Nat.add_assoc _ _ _))⟩))))
                  go_meet
                  case rel => exact ⟨_, ((t119 != t120)), (by first | rfl | (simp; done) | (simp [*]; done)), H', ⟨by have := HJ4.out; first | omega | exact Nat.le_refl _⟩, ⟨by (with_reducible repeat (first | apply Kd.R_alloc | apply Kd.R_drewN | apply Kd.R_drew)); exact HO_7.out⟩, ⟨by repeat (first | (with_reducible first | exact HB.out | apply below_alloc | apply pw_below_drewN | apply below_drew1) | exact HB.out)⟩⟩
              · rw [if_neg c16] at H
                exact absurd H (by simp)
            · rw [if_neg c15] at H
              exact absurd H (by simp)
          · replace c12 := Bool.eq_false_iff.mpr c12
            subst c12
            have H1 : (if (t117 != false) = true then (annalistlaw16_VoteSets.j1 kj4 a1 a2 t113 a0 true) else ((vote_Set_Len.f a0).bind fun t121 => ((annalistref16_Count.f kj4 t113 63).bind fun t122 => (annalistlaw16_VoteSets.j1 kj4 a1 a2 t113 a0 (t121 != t122))))) = some r := by rw [if_neg (show ¬ (false = true) by decide)] at H; exact H
            clear H
            have H := H1
            clear H1
            by_cases c24 : (t117 != false) = true
            · rw [if_pos c24] at H
              have c24b0 : (t117 != false) = true := c24
              (try (have c24b1 : decide (t117 = false) = false := by simpa using c24))
              (try (have c24b2 : (t117 == false) = false := by simpa using c24))
              (try (have c24b3 : ¬ (t117 = false) := by simpa using c24))
              clear c24
              have H' := Aside0.mk H
              clear H
              go_wp2_with (first | (go_at_call 10; (with_reducible refine (annalistlaw16_awake.calls  true _ A9.out).mono ?_); rintro e w25 ⟨rfl, hb⟩; have n0_ := Aside0.mk (Kd.R_below (by (with_reducible repeat (first | apply Kd.R_alloc | apply Kd.R_drewN | apply Kd.R_drew)); exact HO_7.out) hb); have n1_ := Aside0.mk (below_step (by repeat (first | (with_reducible first | exact HB.out | apply below_alloc | apply pw_below_drewN | apply below_drew1) | exact HB.out)) hb); clear HO_7; clear HB; have HO_7 := n0_; have HB := n1_; clear n0_ n1_; (try clear hb); (try clear hb2); (try clear hk); (try clear hi)) | (go_at_call 11; (with_reducible refine (vote_Set_Has.calls a0 a1 t117 _ A11.out).mono ?_); rintro e w' ⟨rfl, ⟨nd, rfl⟩⟩; (try first | exact ⟨rfl, _, World.drewN_drewN _ _ _⟩ | exact ⟨rfl, _, Eq.trans (World.drewN_drewN _ _ _) (congrArg (World.drewN _) (Nat.add_assoc _ _ _))⟩)))
              repeat (go_quiet (first | (go_at_call 10; (with_reducible refine (annalistlaw16_awake.calls  true _ A9.out).mono ?_); rintro e w25 ⟨rfl, hb⟩; have n0_ := Aside0.mk (Kd.R_below (by (with_reducible repeat (first | apply Kd.R_alloc | apply Kd.R_drewN | apply Kd.R_drew)); exact HO_7.out) hb); have n1_ := Aside0.mk (below_step (by repeat (first | (with_reducible first | exact HB.out | apply below_alloc | apply pw_below_drewN | apply below_drew1) | exact HB.out)) hb); clear HO_7; clear HB; have HO_7 := n0_; have HB := n1_; clear n0_ n1_; (try clear hb); (try clear hb2); (try clear hk); (try clear hi)) | (go_at_call 11; (with_reducible refine (vote_Set_Has.calls a0 a1 t117 _ A11.out).mono ?_); rintro e w' ⟨rfl, ⟨nd, rfl⟩⟩; (try first | exact ⟨rfl, _, World.drewN_drewN _ _ _⟩ | exact ⟨rfl, _, Eq.trans (World.drewN_drewN _ _ _) (congrArg (World.drewN _) (Nat.add_assoc _ _ _))⟩))); try go_wp2_with (first | (go_at_call 10; (with_reducible refine (annalistlaw16_awake.calls  true _ A9.out).mono ?_); rintro e w25 ⟨rfl, hb⟩; have n0_ := Aside0.mk (Kd.R_below (by (with_reducible repeat (first | apply Kd.R_alloc | apply Kd.R_drewN | apply Kd.R_drew)); exact HO_7.out) hb); have n1_ := Aside0.mk (below_step (by repeat (first | (with_reducible first | exact HB.out | apply below_alloc | apply pw_below_drewN | apply below_drew1) | exact HB.out)) hb); clear HO_7; clear HB; have HO_7 := n0_; have HB := n1_; clear n0_ n1_; (try clear hb); (try clear hb2); (try clear hk); (try clear hi)) | (go_at_call 11; (with_reducible refine (vote_Set_Has.calls a0 a1 t117 _ A11.out).mono ?_); rintro e w' ⟨rfl, ⟨nd, rfl⟩⟩; (try first | exact ⟨rfl, _, World.drewN_drewN _ _ _⟩ | exact ⟨rfl, _, Eq.trans (World.drewN_drewN _ _ _) (congrArg (World.drewN _) (Nat.add_assoc _ _ _))⟩))))
              go_meet
              case rel => exact ⟨_, (true), (by first | rfl | (simp; done) | (simp [*]; done)), H', ⟨by have := HJ4.out; first | omega | exact Nat.le_refl _⟩, ⟨by (with_reducible repeat (first | apply Kd.R_alloc | apply Kd.R_drewN | apply Kd.R_drew)); exact HO_7.out⟩, ⟨by repeat (first | (with_reducible first | exact HB.out | apply below_alloc | apply pw_below_drewN | apply below_drew1) | exact HB.out)⟩⟩
            · rw [if_neg c24] at H
              have c24b0 : (t117 != false) = false := by simpa using c24
              (try (have c24b1 : decide (t117 = false) = true := by simpa using c24))
              (try (have c24b2 : (t117 == false) = true := by simpa using c24))
              clear c24
              replace H := Option.bind_eq_some_iff.mp H
              obtain ⟨t121, A260, H⟩ := H
              replace H : ((annalistref16_Count.f kj4 t113 63).bind fun t122 => (annalistlaw16_VoteSets.j1 kj4 a1 a2 t113 a0 (t121 != t122))) = some r := H
              have A26 := Aside0.mk A260
              clear A260
              replace H := Option.bind_eq_some_iff.mp H
              obtain ⟨t122, A270, H⟩ := H
              replace H : (annalistlaw16_VoteSets.j1 kj4 a1 a2 t113 a0 (t121 != t122)) = some r := H
              have A27 := Aside0.mk A270
              clear A270
              have H' := Aside0.mk H
              clear H
              go_wp2_with (first | (go_at_call 10; (with_reducible refine (annalistlaw16_awake.calls  true _ A9.out).mono ?_); rintro e w28 ⟨rfl, hb⟩; have n0_ := Aside0.mk (Kd.R_below (by (with_reducible repeat (first | apply Kd.R_alloc | apply Kd.R_drewN | apply Kd.R_drew)); exact HO_7.out) hb); have n1_ := Aside0.mk (below_step (by repeat (first | (with_reducible first | exact HB.out | apply below_alloc | apply pw_below_drewN | apply below_drew1) | exact HB.out)) hb); clear HO_7; clear HB; have HO_7 := n0_; have HB := n1_; clear n0_ n1_; (try clear hb); (try clear hb2); (try clear hk); (try clear hi)) | (go_at_call 11; (with_reducible refine (vote_Set_Has.calls a0 a1 t117 _ A11.out).mono ?_); rintro e w' ⟨rfl, ⟨nd, rfl⟩⟩; (try first | exact ⟨rfl, _, World.drewN_drewN _ _ _⟩ | exact ⟨rfl, _, Eq.trans (World.drewN_drewN _ _ _) (congrArg (World.drewN _) (Nat.add_assoc _ _ _))⟩)) | (go_at_call 13; (with_reducible refine (vote_Set_Len.calls a0 t121 _ A26.out).mono ?_); rintro e w' ⟨rfl, ⟨nd, rfl⟩⟩; (try first | exact ⟨rfl, _, World.drewN_drewN _ _ _⟩ | exact ⟨rfl, _, Eq.trans (World.drewN_drewN _ _ _) (congrArg (World.drewN _) (Nat.add_assoc _ _ _))⟩); obtain ⟨Ao29, co29, eo29⟩ := Kd.R_slice HO_7.out; subst eo29) | (go_at_call 17; (with_reducible refine (annalistref16_Count.calls kj4 _ _ t113 63 t122 _ ?side1 ?side2 A27.out).mono ?_); (case side1 => repeat (first | exact (Kd.R_reads' HO_7.out).2.2 | (with_reducible refine Kd.C_alloc ?_ _) | (with_reducible refine Kd.C_drewN ?_ _) | (with_reducible refine Kd.C_drew ?_))); (case side2 => exact (Kd.R_reads' HO_7.out).2.1); rintro e w' ⟨rfl, ⟨nd, rfl⟩⟩; (try first | exact ⟨rfl, _, World.drewN_drewN _ _ _⟩ | exact ⟨rfl, _, Eq.trans (World.drewN_drewN _ _ _) (congrArg (World.drewN _) (Nat.add_assoc _ _ _))⟩)))
              repeat (go_quiet (first | (go_at_call 10; (with_reducible refine (annalistlaw16_awake.calls  true _ A9.out).mono ?_); rintro e w28 ⟨rfl, hb⟩; have n0_ := Aside0.mk (Kd.R_below (by (with_reducible repeat (first | apply Kd.R_alloc | apply Kd.R_drewN | apply Kd.R_drew)); exact HO_7.out) hb); have n1_ := Aside0.mk (below_step (by repeat (first | (with_reducible first | exact HB.out | apply below_alloc | apply pw_below_drewN | apply below_drew1) | exact HB.out)) hb); clear HO_7; clear HB; have HO_7 := n0_; have HB := n1_; clear n0_ n1_; (try clear hb); (try clear hb2); (try clear hk); (try clear hi)) | (go_at_call 11; (with_reducible refine (vote_Set_Has.calls a0 a1 t117 _ A11.out).mono ?_); rintro e w' ⟨rfl, ⟨nd, rfl⟩⟩; (try first | exact ⟨rfl, _, World.drewN_drewN _ _ _⟩ | exact ⟨rfl, _, Eq.trans (World.drewN_drewN _ _ _) (congrArg (World.drewN _) (Nat.add_assoc _ _ _))⟩)) | (go_at_call 13; (with_reducible refine (vote_Set_Len.calls a0 t121 _ A26.out).mono ?_); rintro e w' ⟨rfl, ⟨nd, rfl⟩⟩; (try first | exact ⟨rfl, _, World.drewN_drewN _ _ _⟩ | exact ⟨rfl, _, Eq.trans (World.drewN_drewN _ _ _) (congrArg (World.drewN _) (Nat.add_assoc _ _ _))⟩); obtain ⟨Ao29, co29, eo29⟩ := Kd.R_slice HO_7.out; subst eo29) | (go_at_call 17; (with_reducible refine (annalistref16_Count.calls kj4 _ _ t113 63 t122 _ ?side1 ?side2 A27.out).mono ?_); (case side1 => repeat (first | exact (Kd.R_reads' HO_7.out).2.2 | (with_reducible refine Kd.C_alloc ?_ _) | (with_reducible refine Kd.C_drewN ?_ _) | (with_reducible refine Kd.C_drew ?_))); (case side2 => exact (Kd.R_reads' HO_7.out).2.1); rintro e w' ⟨rfl, ⟨nd, rfl⟩⟩; (try first | exact ⟨rfl, _, World.drewN_drewN _ _ _⟩ | exact ⟨rfl, _, Eq.trans (World.drewN_drewN _ _ _) (congrArg (World.drewN _) (Nat.add_assoc _ _ _))⟩))); try go_wp2_with (first | (go_at_call 10; (with_reducible refine (annalistlaw16_awake.calls  true _ A9.out).mono ?_); rintro e w28 ⟨rfl, hb⟩; have n0_ := Aside0.mk (Kd.R_below (by (with_reducible repeat (first | apply Kd.R_alloc | apply Kd.R_drewN | apply Kd.R_drew)); exact HO_7.out) hb); have n1_ := Aside0.mk (below_step (by repeat (first | (with_reducible first | exact HB.out | apply below_alloc | apply pw_below_drewN | apply below_drew1) | exact HB.out)) hb); clear HO_7; clear HB; have HO_7 := n0_; have HB := n1_; clear n0_ n1_; (try clear hb); (try clear hb2); (try clear hk); (try clear hi)) | (go_at_call 11; (with_reducible refine (vote_Set_Has.calls a0 a1 t117 _ A11.out).mono ?_); rintro e w' ⟨rfl, ⟨nd, rfl⟩⟩; (try first | exact ⟨rfl, _, World.drewN_drewN _ _ _⟩ | exact ⟨rfl, _, Eq.trans (World.drewN_drewN _ _ _) (congrArg (World.drewN _) (Nat.add_assoc _ _ _))⟩)) | (go_at_call 13; (with_reducible refine (vote_Set_Len.calls a0 t121 _ A26.out).mono ?_); rintro e w' ⟨rfl, ⟨nd, rfl⟩⟩; (try first | exact ⟨rfl, _, World.drewN_drewN _ _ _⟩ | exact ⟨rfl, _, Eq.trans (World.drewN_drewN _ _ _) (congrArg (World.drewN _) (Nat.add_assoc _ _ _))⟩); obtain ⟨Ao29, co29, eo29⟩ := Kd.R_slice HO_7.out; subst eo29) | (go_at_call 17; (with_reducible refine (annalistref16_Count.calls kj4 _ _ t113 63 t122 _ ?side1 ?side2 A27.out).mono ?_); (case side1 => repeat (first | exact (Kd.R_reads' HO_7.out).2.2 | (with_reducible refine Kd.C_alloc ?_ _) | (with_reducible refine Kd.C_drewN ?_ _) | (with_reducible refine Kd.C_drew ?_))); (case side2 => exact (Kd.R_reads' HO_7.out).2.1); rintro e w' ⟨rfl, ⟨nd, rfl⟩⟩; (try first | exact ⟨rfl, _, World.drewN_drewN _ _ _⟩ | exact ⟨rfl, _, Eq.trans (World.drewN_drewN _ _ _) (congrArg (World.drewN _) (Nat.add_assoc _ _ _))⟩))))
              go_meet
              case rel => exact ⟨_, ((t121 != t122)), (by first | rfl | (simp; done) | (simp [*]; done)), H', ⟨by have := HJ4.out; first | omega | exact Nat.le_refl _⟩, ⟨by (with_reducible repeat (first | apply Kd.R_alloc | apply Kd.R_drewN | apply Kd.R_drew)); exact HO_7.out⟩, ⟨by repeat (first | (with_reducible first | exact HB.out | apply below_alloc | apply pw_below_drewN | apply below_drew1) | exact HB.out)⟩⟩
        · replace c10 := Bool.eq_false_iff.mpr c10
          subst c10
          have H1 : (annalistlaw16_VoteSets.j1 kj4 a1 a2 t113 a0 true) = some r := by rw [if_neg (show ¬ (false = true) by decide)] at H; exact H
          clear H
          have H := H1
          clear H1
          have H' := Aside0.mk H
          clear H
          go_wp2_with (first | (go_at_call 10; (with_reducible refine (annalistlaw16_awake.calls  false _ A9.out).mono ?_); rintro e w30 ⟨rfl, hb⟩; have n0_ := Aside0.mk (Kd.R_below (by (with_reducible repeat (first | apply Kd.R_alloc | apply Kd.R_drewN | apply Kd.R_drew)); exact HO_7.out) hb); have n1_ := Aside0.mk (below_step (by repeat (first | (with_reducible first | exact HB.out | apply below_alloc | apply pw_below_drewN | apply below_drew1) | exact HB.out)) hb); clear HO_7; clear HB; have HO_7 := n0_; have HB := n1_; clear n0_ n1_; (try clear hb); (try clear hb2); (try clear hk); (try clear hi)))
          repeat (go_quiet (first | (go_at_call 10; (with_reducible refine (annalistlaw16_awake.calls  false _ A9.out).mono ?_); rintro e w30 ⟨rfl, hb⟩; have n0_ := Aside0.mk (Kd.R_below (by (with_reducible repeat (first | apply Kd.R_alloc | apply Kd.R_drewN | apply Kd.R_drew)); exact HO_7.out) hb); have n1_ := Aside0.mk (below_step (by repeat (first | (with_reducible first | exact HB.out | apply below_alloc | apply pw_below_drewN | apply below_drew1) | exact HB.out)) hb); clear HO_7; clear HB; have HO_7 := n0_; have HB := n1_; clear n0_ n1_; (try clear hb); (try clear hb2); (try clear hk); (try clear hi))); try go_wp2_with (first | (go_at_call 10; (with_reducible refine (annalistlaw16_awake.calls  false _ A9.out).mono ?_); rintro e w30 ⟨rfl, hb⟩; have n0_ := Aside0.mk (Kd.R_below (by (with_reducible repeat (first | apply Kd.R_alloc | apply Kd.R_drewN | apply Kd.R_drew)); exact HO_7.out) hb); have n1_ := Aside0.mk (below_step (by repeat (first | (with_reducible first | exact HB.out | apply below_alloc | apply pw_below_drewN | apply below_drew1) | exact HB.out)) hb); clear HO_7; clear HB; have HO_7 := n0_; have HB := n1_; clear n0_ n1_; (try clear hb); (try clear hb2); (try clear hk); (try clear hi))))
          go_meet
          case rel => exact ⟨_, (true), (by first | rfl | (simp; done) | (simp [*]; done)), H', ⟨by have := HJ4.out; first | omega | exact Nat.le_refl _⟩, ⟨by (with_reducible repeat (first | apply Kd.R_alloc | apply Kd.R_drewN | apply Kd.R_drew)); exact HO_7.out⟩, ⟨by repeat (first | (with_reducible first | exact HB.out | apply below_alloc | apply pw_below_drewN | apply below_drew1) | exact HB.out)⟩⟩
      case rest =>
        clear HC8
        try clear c1
        try clear p1
        try clear q1
        try clear hx1
        try clear c2
        try clear p2
        try clear c5
        try clear c7
        try clear c7b0
        try clear c10
        try clear p11
        try clear q11
        try clear hx11
        try clear c12
        try clear c15
        try clear c15b0
        try clear c16
        try clear c16b0
        try clear c17
        try clear c17b0
        try clear c17b1
        try clear c17b2
        try clear c24
        try clear c24b0
        try clear c24b1
        try clear c24b2
        try clear hx118_0
        try clear p118
        try clear p2
        try clear q118
        obtain ⟨kq, x45_7, rfl, HA, HJ7, HO_7, HB⟩ := hcut
        cases kq with
        | zero => exact absurd HA.out (by simp [annalistlaw16_VoteSets.j1])
        | succ kj7 =>
          have H := HA.out
          clear HA
          simp only [annalistlaw16_VoteSets.j1] at H
          by_cases c31 : x45_7 = true
          · subst c31
            have H1 : (some false) = some r := by rw [if_pos rfl] at H; exact H
            clear H
            have H := H1
            clear H1
            obtain rfl := Option.some.inj H
            go_wp2
            repeat (go_quiet (fail); try go_wp2)
            go_ret
            exact ⟨by first | rfl | (simp [errW_none, errW_some] <;> rfl) | (simp [*, errW_none, errW_some] <;> rfl), by repeat (first | (with_reducible first | exact HB.out | apply below_alloc | apply pw_below_drewN | apply below_drew1) | exact HB.out)⟩
          · replace c31 := Bool.eq_false_iff.mpr c31
            subst c31
            have H1 : ((vote_Set_With.f a0 a1).bind fun t123 => ((vote_Set_Within.f a0 a2).bind fun t124 => (annalistlaw16_VoteSets.l0 kj7 a1 a2 t113 a0 t123 t124 0))) = some r := by rw [if_neg (show ¬ (false = true) by decide)] at H; exact H
            clear H
            have H := H1
            clear H1
            replace H := Option.bind_eq_some_iff.mp H
            obtain ⟨t123, A320, H⟩ := H
            replace H : ((vote_Set_Within.f a0 a2).bind fun t124 => (annalistlaw16_VoteSets.l0 kj7 a1 a2 t113 a0 t123 t124 0)) = some r := H
            have A32 := Aside0.mk A320
            clear A320
            replace H := Option.bind_eq_some_iff.mp H
            obtain ⟨t124, A330, H⟩ := H
            replace H : (annalistlaw16_VoteSets.l0 kj7 a1 a2 t113 a0 t123 t124 0) = some r := H
            have A33 := Aside0.mk A330
            clear A330
            have H' := Aside0.mk H
            clear H
            go_wp2_with (first | (go_at_call 12; (with_reducible refine (vote_Set_With.calls a0 a1 t123 _ A32.out).mono ?_); rintro e w' ⟨rfl, ⟨nd, rfl⟩⟩; (try first | exact ⟨rfl, _, World.drewN_drewN _ _ _⟩ | exact ⟨rfl, _, Eq.trans (World.drewN_drewN _ _ _) (congrArg (World.drewN _) (Nat.add_assoc _ _ _))⟩)) | (go_at_call 15; (with_reducible refine (vote_Set_Within.calls a0 a2 t124 _ A33.out).mono ?_); rintro e w' ⟨rfl, ⟨nd, rfl⟩⟩; (try first | exact ⟨rfl, _, World.drewN_drewN _ _ _⟩ | exact ⟨rfl, _, Eq.trans (World.drewN_drewN _ _ _) (congrArg (World.drewN _) (Nat.add_assoc _ _ _))⟩)))
            repeat (go_quiet (first | (go_at_call 12; (with_reducible refine (vote_Set_With.calls a0 a1 t123 _ A32.out).mono ?_); rintro e w' ⟨rfl, ⟨nd, rfl⟩⟩; (try first | exact ⟨rfl, _, World.drewN_drewN _ _ _⟩ | exact ⟨rfl, _, Eq.trans (World.drewN_drewN _ _ _) (congrArg (World.drewN _) (Nat.add_assoc _ _ _))⟩)) | (go_at_call 15; (with_reducible refine (vote_Set_Within.calls a0 a2 t124 _ A33.out).mono ?_); rintro e w' ⟨rfl, ⟨nd, rfl⟩⟩; (try first | exact ⟨rfl, _, World.drewN_drewN _ _ _⟩ | exact ⟨rfl, _, Eq.trans (World.drewN_drewN _ _ _) (congrArg (World.drewN _) (Nat.add_assoc _ _ _))⟩))); try go_wp2_with (first | (go_at_call 12; (with_reducible refine (vote_Set_With.calls a0 a1 t123 _ A32.out).mono ?_); rintro e w' ⟨rfl, ⟨nd, rfl⟩⟩; (try first | exact ⟨rfl, _, World.drewN_drewN _ _ _⟩ | exact ⟨rfl, _, Eq.trans (World.drewN_drewN _ _ _) (congrArg (World.drewN _) (Nat.add_assoc _ _ _))⟩)) | (go_at_call 15; (with_reducible refine (vote_Set_Within.calls a0 a2 t124 _ A33.out).mono ?_); rintro e w' ⟨rfl, ⟨nd, rfl⟩⟩; (try first | exact ⟨rfl, _, World.drewN_drewN _ _ _⟩ | exact ⟨rfl, _, Eq.trans (World.drewN_drewN _ _ _) (congrArg (World.drewN _) (Nat.add_assoc _ _ _))⟩))))
            go_loopg [12] kj7 (fun kq v12 w' => ∃ (x12_3 : Int), v12 = .int .i64 x12_3 ∧ Aside0 (annalistlaw16_VoteSets.l0 kq a1 a2 t113 a0 t123 t124 x12_3 = some r) ∧ Aside0 (kq ≤ kj7) ∧ Aside0 (Kd.R Kd.bool 4 w' w.heap.size (fun _ => True) v114 t113) ∧ Aside0 (Below w.heap.size w w'))
            case atStart => exact ⟨(0), (by first | rfl | (simp; done) | (simp [*]; done)), H', ⟨Nat.le_refl _⟩, ⟨by (with_reducible repeat (first | apply Kd.R_alloc | apply Kd.R_drewN | apply Kd.R_drew)); exact HO_7.out⟩, ⟨by repeat (first | (with_reducible first | exact HB.out | apply below_alloc | apply pw_below_drewN | apply below_drew1) | exact HB.out)⟩⟩
            case round =>
              clear H'
              try clear c1
              try clear p1
              try clear q1
              try clear hx1
              try clear c2
              try clear p2
              try clear c3
              try clear c5
              try clear c7
              try clear c7b0
              try clear c10
              try clear p11
              try clear q11
              try clear hx11
              try clear c12
              try clear c15
              try clear c15b0
              try clear c16
              try clear c16b0
              try clear c17
              try clear c17b0
              try clear c17b1
              try clear c17b2
              try clear c24
              try clear c24b0
              try clear c24b1
              try clear c24b2
              try clear c31
              try clear hx118_0
              try clear p1
              try clear p11
              try clear p118
              try clear p2
              try clear q1
              try clear q11
              try clear q118
              obtain ⟨x12_3, rfl, HA, HK3, HO_7, HB⟩ := hrel
              cases gk with
              | zero => exact absurd HA.out (by simp [annalistlaw16_VoteSets.l0])
              | succ k3 =>
                have H := HA.out
                clear HA
                simp only [annalistlaw16_VoteSets.l0] at H
                by_cases c34 : x12_3 < 63
                · rw [if_pos c34] at H
                  have c34b0 : decide (x12_3 < 63) = true := decide_eq_true c34
                  clear c34
                  replace H := Option.bind_eq_some_iff.mp H
                  obtain ⟨t125, A350, H⟩ := H
                  replace H : (if 0 ≤ x12_3 then (if x12_3 < (t113.length : Int) then (if rdOf false t113 x12_3 = true then (if (t125 != true) = true then (some false) else ((vote_Set_Has.f t124 x12_3).bind fun t127 => (if (t127 != (decide (x12_3 < a2))) = true then (some false) else (annalistlaw16_VoteSets.l0 k3 a1 a2 t113 a0 t123 t124 (wrap64 (x12_3 + 1)))))) else (if (t125 != (x12_3 == a1)) = true then (some false) else ((vote_Set_Has.f t124 x12_3).bind fun t129 => (if (t129 != false) = true then (some false) else (annalistlaw16_VoteSets.l0 k3 a1 a2 t113 a0 t123 t124 (wrap64 (x12_3 + 1))))))) else (none)) else (none)) = some r := H
                  have A35 := Aside0.mk A350
                  clear A350
                  by_cases c36 : 0 ≤ x12_3
                  · rw [if_pos c36] at H
                    have c36b0 : decide (0 ≤ x12_3) = true := decide_eq_true c36
                    clear c36
                    by_cases c37 : x12_3 < (t113.length : Int)
                    · rw [if_pos c37] at H
                      have c37b0 : decide (x12_3 < (t113.length : Int)) = true := decide_eq_true c37
                      clear c37
                      obtain ⟨bq38, hbq38⟩ : ∃ b_ : Bool, b_ = (rdOf false t113 x12_3) := ⟨_, rfl⟩
                      replace H : (if bq38 = true then (if (t125 != true) = true then (some false) else ((vote_Set_Has.f t124 x12_3).bind fun t127 => (if (t127 != (decide (x12_3 < a2))) = true then (some false) else (annalistlaw16_VoteSets.l0 k3 a1 a2 t113 a0 t123 t124 (wrap64 (x12_3 + 1)))))) else (if (t125 != (x12_3 == a1)) = true then (some false) else ((vote_Set_Has.f t124 x12_3).bind fun t129 => (if (t129 != false) = true then (some false) else (annalistlaw16_VoteSets.l0 k3 a1 a2 t113 a0 t123 t124 (wrap64 (x12_3 + 1))))))) = some r := by rw [← hbq38] at H; exact H
                      have Nbq38 := Aside0.mk hbq38
                      clear hbq38
                      by_cases c39 : bq38 = true
                      · subst c39
                        have H1 : (if (t125 != true) = true then (some false) else ((vote_Set_Has.f t124 x12_3).bind fun t127 => (if (t127 != (decide (x12_3 < a2))) = true then (some false) else (annalistlaw16_VoteSets.l0 k3 a1 a2 t113 a0 t123 t124 (wrap64 (x12_3 + 1)))))) = some r := by rw [if_pos rfl] at H; exact H
                        clear H
                        have H := H1
                        clear H1
                        by_cases c40 : (t125 != true) = true
                        · rw [if_pos c40] at H
                          have c40b0 : (t125 != true) = true := c40
                          (try (have c40b1 : decide (t125 = true) = false := by simpa using c40))
                          (try (have c40b2 : (t125 == true) = false := by simpa using c40))
                          (try (have c40b3 : ¬ (t125 = true) := by simpa using c40))
                          clear c40
                          obtain rfl := Option.some.inj H
                          obtain ⟨Ao41, co41, eo41⟩ := Kd.R_slice HO_7.out
                          subst eo41
                          have p126 : 0 ≤ (x12_3 : Int) := of_decide_eq_true (by first | (with_reducible assumption) | assumption)
                          have q126 : x12_3 < (t113.length : Int) := of_decide_eq_true (by first | (with_reducible assumption) | assumption)
                          obtain ⟨ad126, e126, hx126_0⟩ := Kd.at_bool (Kd.R_reads' HO_7.out).2.2 x12_3 p126 q126
                          (try rw [← Nbq38.out] at hx126_0)
                          cases e126
                          replace p126 := eq_true p126
                          replace q126 := eq_true q126
                          go_wp2_with fail
                          go_quiet ((first | (go_at_call 11; (with_reducible refine (vote_Set_Has.calls t123 x12_3 t125 _ A35.out).mono ?_); rintro e w' ⟨rfl, ⟨nd, rfl⟩⟩; first | exact ⟨rfl, _, World.drewN_drewN _ _ _⟩ | exact ⟨rfl, _, Eq.trans (World.drewN_drewN _ _ _) (congrArg (World.drewN _) (Nat.add_assoc _ _ _))⟩)))
                          go_wp2_with fail
                          go_ret
                          exact ⟨by first | rfl | (simp [errW_none, errW_some] <;> rfl) | (simp [*, errW_none, errW_some] <;> rfl), by repeat (first | (with_reducible first | exact HB.out | apply below_alloc | apply pw_below_drewN | apply below_drew1) | exact HB.out)⟩
                        · rw [if_neg c40] at H
                          have c40b0 : (t125 != true) = false := by simpa using c40
                          (try (have c40b1 : decide (t125 = true) = true := by simpa using c40))
                          (try (have c40b2 : (t125 == true) = true := by simpa using c40))
                          clear c40
                          replace H := Option.bind_eq_some_iff.mp H
                          obtain ⟨t127, A420, H⟩ := H
                          replace H : (if (t127 != (decide (x12_3 < a2))) = true then (some false) else (annalistlaw16_VoteSets.l0 k3 a1 a2 t113 a0 t123 t124 (wrap64 (x12_3 + 1)))) = some r := H
                          have A42 := Aside0.mk A420
                          clear A420
                          by_cases c43 : (t127 != (decide (x12_3 < a2))) = true
                          · rw [if_pos c43] at H
                            have c43b0 : (t127 != (decide (x12_3 < a2))) = true := c43
                            (try (have c43b1 : decide (t127 = (decide (x12_3 < a2))) = false := by simpa using c43))
                            (try (have c43b2 : (t127 == (decide (x12_3 < a2))) = false := by simpa using c43))
                            (try (have c43b3 : ¬ (t127 = (decide (x12_3 < a2))) := by simpa using c43))
                            clear c43
                            obtain rfl := Option.some.inj H
                            obtain ⟨Ao44, co44, eo44⟩ := Kd.R_slice HO_7.out
                            subst eo44
                            have p126 : 0 ≤ (x12_3 : Int) := of_decide_eq_true (by first | (with_reducible assumption) | assumption)
                            have q126 : x12_3 < (t113.length : Int) := of_decide_eq_true (by first | (with_reducible assumption) | assumption)
                            obtain ⟨ad126, e126, hx126_0⟩ := Kd.at_bool (Kd.R_reads' HO_7.out).2.2 x12_3 p126 q126
                            (try rw [← Nbq38.out] at hx126_0)
                            cases e126
                            replace p126 := eq_true p126
                            replace q126 := eq_true q126
                            go_wp2_with fail
                            go_quiet ((first | (go_at_call 11; (with_reducible refine (vote_Set_Has.calls t123 x12_3 t125 _ A35.out).mono ?_); rintro e w' ⟨rfl, ⟨nd, rfl⟩⟩; first | exact ⟨rfl, _, World.drewN_drewN _ _ _⟩ | exact ⟨rfl, _, Eq.trans (World.drewN_drewN _ _ _) (congrArg (World.drewN _) (Nat.add_assoc _ _ _))⟩) | (go_at_call 11; (with_reducible refine (vote_Set_Has.calls t124 x12_3 t127 _ A42.out).mono ?_); rintro e w' ⟨rfl, ⟨nd, rfl⟩⟩; first | exact ⟨rfl, _, World.drewN_drewN _ _ _⟩ | exact ⟨rfl, _, Eq.trans (World.drewN_drewN _ _ _) (congrArg (World.drewN _) (Nat.add_assoc _ _ _))⟩)))
                            go_wp2_with fail
                            go_ret
                            exact ⟨by first | rfl | (simp [errW_none, errW_some] <;> rfl) | (simp [*, errW_none, errW_some] <;> rfl), by repeat (first | (with_reducible first | exact HB.out | apply below_alloc | apply pw_below_drewN | apply below_drew1) | exact HB.out)⟩
                          · rw [if_neg c43] at H
                            have c43b0 : (t127 != (decide (x12_3 < a2))) = false := by simpa using c43
                            (try (have c43b1 : decide (t127 = (decide (x12_3 < a2))) = true := by simpa using c43))
                            (try (have c43b2 : (t127 == (decide (x12_3 < a2))) = true := by simpa using c43))
                            clear c43
                            have H' := Aside0.mk H
                            clear H
                            obtain ⟨Ao45, co45, eo45⟩ := Kd.R_slice HO_7.out
                            subst eo45
                            have p126 : 0 ≤ (x12_3 : Int) := of_decide_eq_true (by first | (with_reducible assumption) | assumption)
                            have q126 : x12_3 < (t113.length : Int) := of_decide_eq_true (by first | (with_reducible assumption) | assumption)
                            obtain ⟨ad126, e126, hx126_0⟩ := Kd.at_bool (Kd.R_reads' HO_7.out).2.2 x12_3 p126 q126
                            (try rw [← Nbq38.out] at hx126_0)
                            cases e126
                            replace p126 := eq_true p126
                            replace q126 := eq_true q126
                            go_wp2_with fail
                            go_quiet ((first | (go_at_call 11; (with_reducible refine (vote_Set_Has.calls t123 x12_3 t125 _ A35.out).mono ?_); rintro e w' ⟨rfl, ⟨nd, rfl⟩⟩; first | exact ⟨rfl, _, World.drewN_drewN _ _ _⟩ | exact ⟨rfl, _, Eq.trans (World.drewN_drewN _ _ _) (congrArg (World.drewN _) (Nat.add_assoc _ _ _))⟩) | (go_at_call 11; (with_reducible refine (vote_Set_Has.calls t124 x12_3 t127 _ A42.out).mono ?_); rintro e w' ⟨rfl, ⟨nd, rfl⟩⟩; first | exact ⟨rfl, _, World.drewN_drewN _ _ _⟩ | exact ⟨rfl, _, Eq.trans (World.drewN_drewN _ _ _) (congrArg (World.drewN _) (Nat.add_assoc _ _ _))⟩)))
                            go_wp2_with fail
                            go_roundg k3
                            case measure => have := HJ4.out; have := HJ7.out; have := HK3.out; omega
                            case rel => exact ⟨(wrap64 (x12_3 + 1)), (by first | rfl | (simp; done) | (simp [*]; done)), H', ⟨by have := HJ4.out; have := HJ7.out; have := HK3.out; omega⟩, ⟨by (with_reducible repeat (first | apply Kd.R_alloc | apply Kd.R_drewN | apply Kd.R_drew)); exact HO_7.out⟩, ⟨by repeat (first | (with_reducible first | exact HB.out | apply below_alloc | apply pw_below_drewN | apply below_drew1) | exact HB.out)⟩⟩
                      · replace c39 := Bool.eq_false_iff.mpr c39
                        subst c39
                        have H1 : (if (t125 != (x12_3 == a1)) = true then (some false) else ((vote_Set_Has.f t124 x12_3).bind fun t129 => (if (t129 != false) = true then (some false) else (annalistlaw16_VoteSets.l0 k3 a1 a2 t113 a0 t123 t124 (wrap64 (x12_3 + 1)))))) = some r := by rw [if_neg (show ¬ (false = true) by decide)] at H; exact H
                        clear H
                        have H := H1
                        clear H1
                        by_cases c46 : (t125 != (x12_3 == a1)) = true
                        · rw [if_pos c46] at H
                          have c46b0 : (t125 != (x12_3 == a1)) = true := c46
                          (try (have c46b1 : decide (t125 = (x12_3 == a1)) = false := by simpa using c46))
                          (try (have c46b2 : (t125 == (x12_3 == a1)) = false := by simpa using c46))
                          (try (have c46b3 : ¬ (t125 = (x12_3 == a1)) := by simpa using c46))
                          clear c46
                          obtain rfl := Option.some.inj H
                          obtain ⟨Ao47, co47, eo47⟩ := Kd.R_slice HO_7.out
                          subst eo47
                          have p126 : 0 ≤ (x12_3 : Int) := of_decide_eq_true (by first | (with_reducible assumption) | assumption)
                          have q126 : x12_3 < (t113.length : Int) := of_decide_eq_true (by first | (with_reducible assumption) | assumption)
                          obtain ⟨ad126, e126, hx126_0⟩ := Kd.at_bool (Kd.R_reads' HO_7.out).2.2 x12_3 p126 q126
                          (try rw [← Nbq38.out] at hx126_0)
                          cases e126
                          replace p126 := eq_true p126
                          replace q126 := eq_true q126
                          go_wp2_with fail
                          go_quiet ((first | (go_at_call 11; (with_reducible refine (vote_Set_Has.calls t123 x12_3 t125 _ A35.out).mono ?_); rintro e w' ⟨rfl, ⟨nd, rfl⟩⟩; first | exact ⟨rfl, _, World.drewN_drewN _ _ _⟩ | exact ⟨rfl, _, Eq.trans (World.drewN_drewN _ _ _) (congrArg (World.drewN _) (Nat.add_assoc _ _ _))⟩)))
                          go_wp2_with fail
                          go_ret
                          exact ⟨by first | rfl | (simp [errW_none, errW_some] <;> rfl) | (simp [*, errW_none, errW_some] <;> rfl), by repeat (first | (with_reducible first | exact HB.out | apply below_alloc | apply pw_below_drewN | apply below_drew1) | exact HB.out)⟩
                        · rw [if_neg c46] at H
                          have c46b0 : (t125 != (x12_3 == a1)) = false := by simpa using c46
                          (try (have c46b1 : decide (t125 = (x12_3 == a1)) = true := by simpa using c46))
                          (try (have c46b2 : (t125 == (x12_3 == a1)) = true := by simpa using c46))
                          clear c46
                          replace H := Option.bind_eq_some_iff.mp H
                          obtain ⟨t129, A480, H⟩ := H
                          replace H : (if (t129 != false) = true then (some false) else (annalistlaw16_VoteSets.l0 k3 a1 a2 t113 a0 t123 t124 (wrap64 (x12_3 + 1)))) = some r := H
                          have A48 := Aside0.mk A480
                          clear A480
                          by_cases c49 : (t129 != false) = true
                          · rw [if_pos c49] at H
                            have c49b0 : (t129 != false) = true := c49
                            (try (have c49b1 : decide (t129 = false) = false := by simpa using c49))
                            (try (have c49b2 : (t129 == false) = false := by simpa using c49))
                            (try (have c49b3 : ¬ (t129 = false) := by simpa using c49))
                            clear c49
                            obtain rfl := Option.some.inj H
                            obtain ⟨Ao50, co50, eo50⟩ := Kd.R_slice HO_7.out
                            subst eo50
                            have p126 : 0 ≤ (x12_3 : Int) := of_decide_eq_true (by first | (with_reducible assumption) | assumption)
                            have q126 : x12_3 < (t113.length : Int) := of_decide_eq_true (by first | (with_reducible assumption) | assumption)
                            obtain ⟨ad126, e126, hx126_0⟩ := Kd.at_bool (Kd.R_reads' HO_7.out).2.2 x12_3 p126 q126
                            (try rw [← Nbq38.out] at hx126_0)
                            cases e126
                            replace p126 := eq_true p126
                            replace q126 := eq_true q126
                            go_wp2_with fail
                            go_quiet ((first | (go_at_call 11; (with_reducible refine (vote_Set_Has.calls t123 x12_3 t125 _ A35.out).mono ?_); rintro e w' ⟨rfl, ⟨nd, rfl⟩⟩; first | exact ⟨rfl, _, World.drewN_drewN _ _ _⟩ | exact ⟨rfl, _, Eq.trans (World.drewN_drewN _ _ _) (congrArg (World.drewN _) (Nat.add_assoc _ _ _))⟩) | (go_at_call 11; (with_reducible refine (vote_Set_Has.calls t124 x12_3 t129 _ A48.out).mono ?_); rintro e w' ⟨rfl, ⟨nd, rfl⟩⟩; first | exact ⟨rfl, _, World.drewN_drewN _ _ _⟩ | exact ⟨rfl, _, Eq.trans (World.drewN_drewN _ _ _) (congrArg (World.drewN _) (Nat.add_assoc _ _ _))⟩)))
                            go_wp2_with fail
                            go_ret
                            exact ⟨by first | rfl | (simp [errW_none, errW_some] <;> rfl) | (simp [*, errW_none, errW_some] <;> rfl), by repeat (first | (with_reducible first | exact HB.out | apply below_alloc | apply pw_below_drewN | apply below_drew1) | exact HB.out)⟩
                          · rw [if_neg c49] at H
                            have c49b0 : (t129 != false) = false := by simpa using c49
                            (try (have c49b1 : decide (t129 = false) = true := by simpa using c49))
                            (try (have c49b2 : (t129 == false) = true := by simpa using c49))
                            clear c49
                            have H' := Aside0.mk H
                            clear H
                            obtain ⟨Ao51, co51, eo51⟩ := Kd.R_slice HO_7.out
                            subst eo51
                            have p126 : 0 ≤ (x12_3 : Int) := of_decide_eq_true (by first | (with_reducible assumption) | assumption)
                            have q126 : x12_3 < (t113.length : Int) := of_decide_eq_true (by first | (with_reducible assumption) | assumption)
                            obtain ⟨ad126, e126, hx126_0⟩ := Kd.at_bool (Kd.R_reads' HO_7.out).2.2 x12_3 p126 q126
                            (try rw [← Nbq38.out] at hx126_0)
                            cases e126
                            replace p126 := eq_true p126
                            replace q126 := eq_true q126
                            go_wp2_with fail
                            go_quiet ((first | (go_at_call 11; (with_reducible refine (vote_Set_Has.calls t123 x12_3 t125 _ A35.out).mono ?_); rintro e w' ⟨rfl, ⟨nd, rfl⟩⟩; first | exact ⟨rfl, _, World.drewN_drewN _ _ _⟩ | exact ⟨rfl, _, Eq.trans (World.drewN_drewN _ _ _) (congrArg (World.drewN _) (Nat.add_assoc _ _ _))⟩) | (go_at_call 11; (with_reducible refine (vote_Set_Has.calls t124 x12_3 t129 _ A48.out).mono ?_); rintro e w' ⟨rfl, ⟨nd, rfl⟩⟩; first | exact ⟨rfl, _, World.drewN_drewN _ _ _⟩ | exact ⟨rfl, _, Eq.trans (World.drewN_drewN _ _ _) (congrArg (World.drewN _) (Nat.add_assoc _ _ _))⟩)))
                            go_wp2_with fail
                            go_roundg k3
                            case measure => have := HJ4.out; have := HJ7.out; have := HK3.out; omega
                            case rel => exact ⟨(wrap64 (x12_3 + 1)), (by first | rfl | (simp; done) | (simp [*]; done)), H', ⟨by have := HJ4.out; have := HJ7.out; have := HK3.out; omega⟩, ⟨by (with_reducible repeat (first | apply Kd.R_alloc | apply Kd.R_drewN | apply Kd.R_drew)); exact HO_7.out⟩, ⟨by repeat (first | (with_reducible first | exact HB.out | apply below_alloc | apply pw_below_drewN | apply below_drew1) | exact HB.out)⟩⟩
                    · rw [if_neg c37] at H
                      exact absurd H (by simp)
                  · rw [if_neg c36] at H
                    exact absurd H (by simp)
                · rw [if_neg c34] at H
                  have c34b0 : decide (x12_3 < 63) = false := decide_eq_false c34
                  clear c34
                  replace H := Option.bind_eq_some_iff.mp H
                  obtain ⟨t131, A520, H⟩ := H
                  replace H : ((annalistref16_Majority.f a2).bind fun t132 => (if t131 = t132 then ((vote_Enough.f a0 a2).bind fun t133 => ((annalistref16_Count.f k3 t113 a2).bind fun t134 => ((annalistref16_Majority.f a2).bind fun t135 => (some (t133 == (decide (t134 ≥ t135))))))) else (some false))) = some r := H
                  have A52 := Aside0.mk A520
                  clear A520
                  replace H := Option.bind_eq_some_iff.mp H
                  obtain ⟨t132, A530, H⟩ := H
                  replace H : (if t131 = t132 then ((vote_Enough.f a0 a2).bind fun t133 => ((annalistref16_Count.f k3 t113 a2).bind fun t134 => ((annalistref16_Majority.f a2).bind fun t135 => (some (t133 == (decide (t134 ≥ t135))))))) else (some false)) = some r := H
                  have A53 := Aside0.mk A530
                  clear A530
                  by_cases c54 : t131 = t132
                  · rw [if_pos c54] at H
                    have c54b0 : (t131 == t132) = true := beq_iff_eq.mpr c54
                    have c54b1 : (t131 != t132) = false := bne_eq_false_iff_eq.mpr c54
                    clear c54
                    replace H := Option.bind_eq_some_iff.mp H
                    obtain ⟨t133, A550, H⟩ := H
                    replace H : ((annalistref16_Count.f k3 t113 a2).bind fun t134 => ((annalistref16_Majority.f a2).bind fun t135 => (some (t133 == (decide (t134 ≥ t135)))))) = some r := H
                    have A55 := Aside0.mk A550
                    clear A550
                    replace H := Option.bind_eq_some_iff.mp H
                    obtain ⟨t134, A560, H⟩ := H
                    replace H : ((annalistref16_Majority.f a2).bind fun t135 => (some (t133 == (decide (t134 ≥ t135))))) = some r := H
                    have A56 := Aside0.mk A560
                    clear A560
                    replace H := Option.bind_eq_some_iff.mp H
                    obtain ⟨t135, A570, H⟩ := H
                    replace H : (some (t133 == (decide (t134 ≥ t135)))) = some r := H
                    have A57 := Aside0.mk A570
                    clear A570
                    obtain rfl := Option.some.inj H
                    go_wp2_with (first | (go_at_call 18; (with_reducible refine (vote_Majority.calls a2 t131 _ A52.out).mono ?_); rintro e w58 ⟨rfl, hb⟩; have n0_ := Aside0.mk (Kd.R_below (by (with_reducible repeat (first | apply Kd.R_alloc | apply Kd.R_drewN | apply Kd.R_drew)); exact HO_7.out) hb); have n1_ := Aside0.mk (below_step (by repeat (first | (with_reducible first | exact HB.out | apply below_alloc | apply pw_below_drewN | apply below_drew1) | exact HB.out)) hb); clear HO_7; clear HB; have HO_7 := n0_; have HB := n1_; clear n0_ n1_; (try clear hb); (try clear hb2); (try clear hk); (try clear hi)) | (go_at_call 19; (with_reducible refine (annalistref16_Majority.calls a2 t132 _ A53.out).mono ?_); rintro e w' ⟨rfl, ⟨nd, rfl⟩⟩; (try first | exact ⟨rfl, _, World.drewN_drewN _ _ _⟩ | exact ⟨rfl, _, Eq.trans (World.drewN_drewN _ _ _) (congrArg (World.drewN _) (Nat.add_assoc _ _ _))⟩)) | (go_at_call 14; (with_reducible refine (vote_Enough.calls a0 a2 t133 _ A55.out).mono ?_); rintro e w59 ⟨rfl, hb⟩; have n0_ := Aside0.mk (Kd.R_below (by (with_reducible repeat (first | apply Kd.R_alloc | apply Kd.R_drewN | apply Kd.R_drew)); exact HO_7.out) hb); have n1_ := Aside0.mk (below_step (by repeat (first | (with_reducible first | exact HB.out | apply below_alloc | apply pw_below_drewN | apply below_drew1) | exact HB.out)) hb); clear HO_7; clear HB; have HO_7 := n0_; have HB := n1_; clear n0_ n1_; (try clear hb); (try clear hb2); (try clear hk); (try clear hi); obtain ⟨Ao60, co60, eo60⟩ := Kd.R_slice HO_7.out; subst eo60) | (go_at_call 17; (with_reducible refine (annalistref16_Count.calls k3 _ _ t113 a2 t134 _ ?side1 ?side2 A56.out).mono ?_); (case side1 => repeat (first | exact (Kd.R_reads' HO_7.out).2.2 | (with_reducible refine Kd.C_alloc ?_ _) | (with_reducible refine Kd.C_drewN ?_ _) | (with_reducible refine Kd.C_drew ?_))); (case side2 => exact (Kd.R_reads' HO_7.out).2.1); rintro e w' ⟨rfl, ⟨nd, rfl⟩⟩; (try first | exact ⟨rfl, _, World.drewN_drewN _ _ _⟩ | exact ⟨rfl, _, Eq.trans (World.drewN_drewN _ _ _) (congrArg (World.drewN _) (Nat.add_assoc _ _ _))⟩)) | (go_at_call 19; (with_reducible refine (annalistref16_Majority.calls a2 t135 _ A57.out).mono ?_); rintro e w' ⟨rfl, ⟨nd, rfl⟩⟩; (try first | exact ⟨rfl, _, World.drewN_drewN _ _ _⟩ | exact ⟨rfl, _, Eq.trans (World.drewN_drewN _ _ _) (congrArg (World.drewN _) (Nat.add_assoc _ _ _))⟩)))
                    repeat (go_quiet (first | (go_at_call 18; (with_reducible refine (vote_Majority.calls a2 t131 _ A52.out).mono ?_); rintro e w58 ⟨rfl, hb⟩; have n0_ := Aside0.mk (Kd.R_below (by (with_reducible repeat (first | apply Kd.R_alloc | apply Kd.R_drewN | apply Kd.R_drew)); exact HO_7.out) hb); have n1_ := Aside0.mk (below_step (by repeat (first | (with_reducible first | exact HB.out | apply below_alloc | apply pw_below_drewN | apply below_drew1) | exact HB.out)) hb); clear HO_7; clear HB; have HO_7 := n0_; have HB := n1_; clear n0_ n1_; (try clear hb); (try clear hb2); (try clear hk); (try clear hi)) | (go_at_call 19; (with_reducible refine (annalistref16_Majority.calls a2 t132 _ A53.out).mono ?_); rintro e w' ⟨rfl, ⟨nd, rfl⟩⟩; (try first | exact ⟨rfl, _, World.drewN_drewN _ _ _⟩ | exact ⟨rfl, _, Eq.trans (World.drewN_drewN _ _ _) (congrArg (World.drewN _) (Nat.add_assoc _ _ _))⟩)) | (go_at_call 14; (with_reducible refine (vote_Enough.calls a0 a2 t133 _ A55.out).mono ?_); rintro e w59 ⟨rfl, hb⟩; have n0_ := Aside0.mk (Kd.R_below (by (with_reducible repeat (first | apply Kd.R_alloc | apply Kd.R_drewN | apply Kd.R_drew)); exact HO_7.out) hb); have n1_ := Aside0.mk (below_step (by repeat (first | (with_reducible first | exact HB.out | apply below_alloc | apply pw_below_drewN | apply below_drew1) | exact HB.out)) hb); clear HO_7; clear HB; have HO_7 := n0_; have HB := n1_; clear n0_ n1_; (try clear hb); (try clear hb2); (try clear hk); (try clear hi); obtain ⟨Ao60, co60, eo60⟩ := Kd.R_slice HO_7.out; subst eo60) | (go_at_call 17; (with_reducible refine (annalistref16_Count.calls k3 _ _ t113 a2 t134 _ ?side1 ?side2 A56.out).mono ?_); (case side1 => repeat (first | exact (Kd.R_reads' HO_7.out).2.2 | (with_reducible refine Kd.C_alloc ?_ _) | (with_reducible refine Kd.C_drewN ?_ _) | (with_reducible refine Kd.C_drew ?_))); (case side2 => exact (Kd.R_reads' HO_7.out).2.1); rintro e w' ⟨rfl, ⟨nd, rfl⟩⟩; (try first | exact ⟨rfl, _, World.drewN_drewN _ _ _⟩ | exact ⟨rfl, _, Eq.trans (World.drewN_drewN _ _ _) (congrArg (World.drewN _) (Nat.add_assoc _ _ _))⟩)) | (go_at_call 19; (with_reducible refine (annalistref16_Majority.calls a2 t135 _ A57.out).mono ?_); rintro e w' ⟨rfl, ⟨nd, rfl⟩⟩; (try first | exact ⟨rfl, _, World.drewN_drewN _ _ _⟩ | exact ⟨rfl, _, Eq.trans (World.drewN_drewN _ _ _) (congrArg (World.drewN _) (Nat.add_assoc _ _ _))⟩))); try go_wp2_with (first | (go_at_call 18; (with_reducible refine (vote_Majority.calls a2 t131 _ A52.out).mono ?_); rintro e w58 ⟨rfl, hb⟩; have n0_ := Aside0.mk (Kd.R_below (by (with_reducible repeat (first | apply Kd.R_alloc | apply Kd.R_drewN | apply Kd.R_drew)); exact HO_7.out) hb); have n1_ := Aside0.mk (below_step (by repeat (first | (with_reducible first | exact HB.out | apply below_alloc | apply pw_below_drewN | apply below_drew1) | exact HB.out)) hb); clear HO_7; clear HB; have HO_7 := n0_; have HB := n1_; clear n0_ n1_; (try clear hb); (try clear hb2); (try clear hk); (try clear hi)) | (go_at_call 19; (with_reducible refine (annalistref16_Majority.calls a2 t132 _ A53.out).mono ?_); rintro e w' ⟨rfl, ⟨nd, rfl⟩⟩; (try first | exact ⟨rfl, _, World.drewN_drewN _ _ _⟩ | exact ⟨rfl, _, Eq.trans (World.drewN_drewN _ _ _) (congrArg (World.drewN _) (Nat.add_assoc _ _ _))⟩)) | (go_at_call 14; (with_reducible refine (vote_Enough.calls a0 a2 t133 _ A55.out).mono ?_); rintro e w59 ⟨rfl, hb⟩; have n0_ := Aside0.mk (Kd.R_below (by (with_reducible repeat (first | apply Kd.R_alloc | apply Kd.R_drewN | apply Kd.R_drew)); exact HO_7.out) hb); have n1_ := Aside0.mk (below_step (by repeat (first | (with_reducible first | exact HB.out | apply below_alloc | apply pw_below_drewN | apply below_drew1) | exact HB.out)) hb); clear HO_7; clear HB; have HO_7 := n0_; have HB := n1_; clear n0_ n1_; (try clear hb); (try clear hb2); (try clear hk); (try clear hi); obtain ⟨Ao60, co60, eo60⟩ := Kd.R_slice HO_7.out; subst eo60) | (go_at_call 17; (with_reducible refine (annalistref16_Count.calls k3 _ _ t113 a2 t134 _ ?side1 ?side2 A56.out).mono ?_); (case side1 => repeat (first | exact (Kd.R_reads' HO_7.out).2.2 | (with_reducible refine Kd.C_alloc ?_ _) | (with_reducible refine Kd.C_drewN ?_ _) | (with_reducible refine Kd.C_drew ?_))); (case side2 => exact (Kd.R_reads' HO_7.out).2.1); rintro e w' ⟨rfl, ⟨nd, rfl⟩⟩; (try first | exact ⟨rfl, _, World.drewN_drewN _ _ _⟩ | exact ⟨rfl, _, Eq.trans (World.drewN_drewN _ _ _) (congrArg (World.drewN _) (Nat.add_assoc _ _ _))⟩)) | (go_at_call 19; (with_reducible refine (annalistref16_Majority.calls a2 t135 _ A57.out).mono ?_); rintro e w' ⟨rfl, ⟨nd, rfl⟩⟩; (try first | exact ⟨rfl, _, World.drewN_drewN _ _ _⟩ | exact ⟨rfl, _, Eq.trans (World.drewN_drewN _ _ _) (congrArg (World.drewN _) (Nat.add_assoc _ _ _))⟩))))
                    go_ret
                    exact ⟨by first | rfl | (rw [show t132 = t135 from Option.some.inj (A53.out.symm.trans A57.out)]; rfl) | (simp [errW_none, errW_some] <;> rfl) | (simp [*, errW_none, errW_some] <;> rfl), by repeat (first | (with_reducible first | exact HB.out | apply below_alloc | apply pw_below_drewN | apply below_drew1) | exact HB.out)⟩
                  · rw [if_neg c54] at H
                    have c54b0 : (t131 == t132) = false := beq_eq_false_iff_ne.mpr c54
                    have c54b1 : (t131 != t132) = true := bne_iff_ne.mpr c54
                    obtain rfl := Option.some.inj H
                    go_wp2_with (first | (go_at_call 18; (with_reducible refine (vote_Majority.calls a2 t131 _ A52.out).mono ?_); rintro e w61 ⟨rfl, hb⟩; have n0_ := Aside0.mk (Kd.R_below (by (with_reducible repeat (first | apply Kd.R_alloc | apply Kd.R_drewN | apply Kd.R_drew)); exact HO_7.out) hb); have n1_ := Aside0.mk (below_step (by repeat (first | (with_reducible first | exact HB.out | apply below_alloc | apply pw_below_drewN | apply below_drew1) | exact HB.out)) hb); clear HO_7; clear HB; have HO_7 := n0_; have HB := n1_; clear n0_ n1_; (try clear hb); (try clear hb2); (try clear hk); (try clear hi)) | (go_at_call 19; (with_reducible refine (annalistref16_Majority.calls a2 t132 _ A53.out).mono ?_); rintro e w' ⟨rfl, ⟨nd, rfl⟩⟩; (try first | exact ⟨rfl, _, World.drewN_drewN _ _ _⟩ | exact ⟨rfl, _, Eq.trans (World.drewN_drewN _ _ _) (congrArg (World.drewN _) (Nat.add_assoc _ _ _))⟩)))
                    repeat (go_quiet (first | (go_at_call 18; (with_reducible refine (vote_Majority.calls a2 t131 _ A52.out).mono ?_); rintro e w61 ⟨rfl, hb⟩; have n0_ := Aside0.mk (Kd.R_below (by (with_reducible repeat (first | apply Kd.R_alloc | apply Kd.R_drewN | apply Kd.R_drew)); exact HO_7.out) hb); have n1_ := Aside0.mk (below_step (by repeat (first | (with_reducible first | exact HB.out | apply below_alloc | apply pw_below_drewN | apply below_drew1) | exact HB.out)) hb); clear HO_7; clear HB; have HO_7 := n0_; have HB := n1_; clear n0_ n1_; (try clear hb); (try clear hb2); (try clear hk); (try clear hi)) | (go_at_call 19; (with_reducible refine (annalistref16_Majority.calls a2 t132 _ A53.out).mono ?_); rintro e w' ⟨rfl, ⟨nd, rfl⟩⟩; (try first | exact ⟨rfl, _, World.drewN_drewN _ _ _⟩ | exact ⟨rfl, _, Eq.trans (World.drewN_drewN _ _ _) (congrArg (World.drewN _) (Nat.add_assoc _ _ _))⟩))); try go_wp2_with (first | (go_at_call 18; (with_reducible refine (vote_Majority.calls a2 t131 _ A52.out).mono ?_); rintro e w61 ⟨rfl, hb⟩; have n0_ := Aside0.mk (Kd.R_below (by (with_reducible repeat (first | apply Kd.R_alloc | apply Kd.R_drewN | apply Kd.R_drew)); exact HO_7.out) hb); have n1_ := Aside0.mk (below_step (by repeat (first | (with_reducible first | exact HB.out | apply below_alloc | apply pw_below_drewN | apply below_drew1) | exact HB.out)) hb); clear HO_7; clear HB; have HO_7 := n0_; have HB := n1_; clear n0_ n1_; (try clear hb); (try clear hb2); (try clear hk); (try clear hi)) | (go_at_call 19; (with_reducible refine (annalistref16_Majority.calls a2 t132 _ A53.out).mono ?_); rintro e w' ⟨rfl, ⟨nd, rfl⟩⟩; (try first | exact ⟨rfl, _, World.drewN_drewN _ _ _⟩ | exact ⟨rfl, _, Eq.trans (World.drewN_drewN _ _ _) (congrArg (World.drewN _) (Nat.add_assoc _ _ _))⟩))))
                    go_ret
                    exact ⟨by first | rfl | (simp [errW_none, errW_some] <;> rfl) | (simp [*, errW_none, errW_some] <;> rfl), by repeat (first | (with_reducible first | exact HB.out | apply below_alloc | apply pw_below_drewN | apply below_drew1) | exact HB.out)⟩

/-- THE ONE PURE STATEMENT of annalistlaw16_VoteSets: yours. -/
def annalistlaw16_VoteSets.Pure : Prop := ∀ (a0 : Int) (a1 : Int) (a2 : Int), (Lit.int .u64 a0).wf = true → (Lit.int .i64 a1).wf = true → (Lit.int .i64 a2).wf = true → ∃ k, annalistlaw16_VoteSets.f k a0 a1 a2 = some true
theorem annalistlaw16_VoteSets.walk (P : annalistlaw16_VoteSets.Pure) (a0 : Int) (a1 : Int) (a2 : Int) (w : World) (w0 : (Lit.int .u64 a0).wf = true) (w1 : (Lit.int .i64 a1).wf = true) (w2 : (Lit.int .i64 a2).wf = true) :
    Calls Try.prog 5 #[.int .u64 a0, .int .i64 a1, .int .i64 a2] w fun e w' => e = .returned (.bool true) ∧ Below w.heap.size w w' := by
  obtain ⟨k, h⟩ := P a0 a1 a2 w0 w1 w2
  refine (annalistlaw16_VoteSets.calls k a0 a1 a2 true w h).mono ?_
  rintro e w' ⟨rfl, hd⟩
  exact ⟨rfl, hd⟩

end Go.Proofs.Ytpflopenjbealaa.PVoteSets
