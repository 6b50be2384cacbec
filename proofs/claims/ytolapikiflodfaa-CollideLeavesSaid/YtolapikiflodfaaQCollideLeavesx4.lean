import Derived.Test.YtolapikiflodfaaQCollideLeavesx0
import Derived.Test.YtolapikiflodfaaQCollideLeavesx3
namespace Go.Proofs.Ytolapikiflodfaa.PCollideLeaves
open Go.RowKit Go.Proofs.YtolapikiflodfaaW.PrintWords Go.Proofs.YtolapikiflodfaaW.PrintLast Go.Proofs.YtolapikiflodfaaW.PrintMore
attribute [local go_sem] max2_int min2_int max_two min_two max_three min_three max_four min_four   -- for this text's walks alone
set_option linter.unusedVariables false
set_option linter.unusedSimpArgs false

/-! ### collide_path: function 125 -/
def collide_path.l0 : Nat → Int → List (S157) → Int → Int → Option ((List (S157)))
  | 0, _, _, _, _ => none
  | k + 1, x0, x5, x6, x7 => if (wrap64 (x7 - x6)) > 1 then ((collide_split.f k (wrap64 (x7 - x6))).bind fun t109 => (if x0 < (wrap64 (x6 + t109)) then (if x5.length < 4398046511104 then (collide_path.l0 k x0 (x5 ++ [(⟨x6, wrap64 (x6 + t109), (⟨#[]⟩ : ByteArray)⟩ : S157)]) x6 (wrap64 (x6 + t109))) else (none)) else (if x5.length < 4398046511104 then (collide_path.l0 k x0 (x5 ++ [(⟨wrap64 (x6 + t109), x7, (⟨#[]⟩ : ByteArray)⟩ : S157)]) (wrap64 (x6 + t109)) x7) else (none)))) else (some x5)
def collide_path.f (k : Nat) (a0 : Int) (a1 : Int) : Option ((List (S157))) := collide_path.l0 k a0 (([(⟨0, a1, (⟨#[]⟩ : ByteArray)⟩ : S157)] : List (S157))) 0 a1
theorem collide_path.mono_l : ∀ k, (∀ y0 y1 y2 y3, LeO (collide_path.l0 k y0 y1 y2 y3) (collide_path.l0 (k + 1) y0 y1 y2 y3))
  | 0 => fun _ _ _ _ r h => by simp [collide_path.l0] at h
  | k + 1 => by
    have ih0 := collide_path.mono_l k
    · intro y0 y1 y2 y3
      unfold collide_path.l0
      repeat' first
      | (with_reducible exact ih0 _ _ _ _)
      | (with_reducible exact collide_split.mono _ _)
      | (with_reducible exact LeO.refl _)
      | (with_reducible exact LeO.none _)
      | (with_reducible refine LeO.ite ?_ ?_)
      | (with_reducible refine LeO.bind ?_ (fun _ => ?_))
      | exact ih0 _ _ _ _
      | exact collide_split.mono _ _
      | exact LeO.none _
      | refine LeO.ite ?_ ?_
      | refine LeO.bind ?_ (fun _ => ?_)
theorem collide_path.mono : ∀ a0 a1 k, LeO (collide_path.f k a0 a1) (collide_path.f (k + 1) a0 a1) := by
  intro a0 a1 k
  have ih0 := collide_path.mono_l k
  unfold collide_path.f
  repeat' first
      | (with_reducible exact ih0 _ _ _ _)
      | (with_reducible exact collide_split.mono _ _)
      | (with_reducible exact LeO.refl _)
      | (with_reducible exact LeO.none _)
      | (with_reducible refine LeO.ite ?_ ?_)
      | (with_reducible refine LeO.bind ?_ (fun _ => ?_))
      | exact ih0 _ _ _ _
      | exact collide_split.mono _ _
      | exact LeO.none _
      | refine LeO.ite ?_ ?_
      | refine LeO.bind ?_ (fun _ => ?_)
set_option maxHeartbeats 8000000 in
set_option maxRecDepth 100000 in
theorem collide_path.calls (k : Nat) (a0 : Int) (a1 : Int) (r : List (S157)) (w : World) (h : collide_path.f k a0 a1 = some r) :
    Calls Try.prog 125 #[.int .i64 a0, .int .i64 a1] w fun e w' => ∃ v0_ : Value, e = .returned (v0_) ∧ Kd.R k157 157 w' w.heap.size (fun _ => True) v0_ r ∧ Below w.heap.size w w' := by
  have hu157 := Try.underlying157
  have HB := Aside0.mk (Below.refl w.heap.size w)
  have H : (collide_path.l0 k a0 (([(⟨0, a1, (⟨#[]⟩ : ByteArray)⟩ : S157)] : List (S157))) 0 a1) = some r := h
  clear h
  obtain ⟨y106, hy106⟩ : ∃ y_ : List (S157), y_ = (([(⟨0, a1, (⟨#[]⟩ : ByteArray)⟩ : S157)] : List (S157))) := ⟨_, rfl⟩
  replace H : (collide_path.l0 k a0 y106 0 a1) = some r := by first | (rw [hy106]; with_reducible exact H) | (have H2_ := (Option.bind_some _ _).symm.trans H; rw [hy106]; with_reducible exact H2_) | (have H2_ := (Option.bind_some _ _).symm.trans H; with_reducible exact H2_) | with_reducible exact H | (rw [hy106]; exact H) | exact H
  have Ny106 := Aside0.mk hy106
  clear hy106
  have H' := Aside0.mk H
  clear H
  go_enter Try.func125, Try.ntmps125
  go_wp2_with (first | ((with_reducible refine gate_dst (N := 11) rfl ?_); refine Kd.R_lit k157 _ 157 ?hg (N := 11) ?hd (xs := ([(⟨0, a1, (⟨#[]⟩ : ByteArray)⟩ : S157)] : List (S157))) (inner := [.int .i64 0, .int .i64 a1, .string (⟨#[]⟩ : ByteArray)]) (ok := fun _ => True) (okp := fun _ => True) ?hr ?hp (fun _ hk => hk) trivial (Below.refl _ _) (Nat.le_refl _) (by simp) ?_; (case hd => rfl); (case hg => rfl); (case hr => first | (go_simp; done) | (go_simp; rfl)); (case hp => exact (Reps.c3 (show Kd.M k157 _ _ _ (⟨0, a1, (⟨#[]⟩ : ByteArray)⟩ : S157) [.int .i64 0, .int .i64 a1, .string (⟨#[]⟩ : ByteArray)] from (k157_mkM _ _ _ (⟨0, a1, (⟨#[]⟩ : ByteArray)⟩ : S157) )) (Reps.none _ _))); intro v107 w3 ho4 hb hg_ hnew_; clear hg_ hnew_; (first | rw [← Ny106.out] at ho4 | (simp only [Int.reduceToNat] at ho4; rw [← Ny106.out] at ho4)); have n0_ := Aside0.mk (Kd.R_lower ho4 (below_size (by repeat (first | (with_reducible first | exact HB.out | apply below_alloc | apply pw_below_drewN | apply below_drew1) | exact HB.out)))); have n1_ := Aside0.mk (below_step (by repeat (first | (with_reducible first | exact HB.out | apply below_alloc | apply pw_below_drewN | apply below_drew1) | exact HB.out)) hb); clear HB; have HO108 := n0_; have HB := n1_; clear n0_ n1_; clear hb ho4))
  go_loopg [5, 6, 7] k (fun kq v5 v6 v7 w' => ∃ (x5_1 : List (S157)) (x6_1 : Int) (x7_1 : Int), v6 = .int .i64 x6_1 ∧ v7 = .int .i64 x7_1 ∧ Aside0 (collide_path.l0 kq a0 x5_1 x6_1 x7_1 = some r) ∧ Aside0 (kq ≤ k) ∧ Aside0 (Kd.R k157 157 w' w.heap.size (fun _ => True) v5 x5_1) ∧ Aside0 (Below w.heap.size w w'))
  case atStart => exact ⟨(y106), (0), (a1), (by first | rfl | (simp; done) | (simp [*]; done)), (by first | rfl | (simp; done) | (simp [*]; done)), H', ⟨Nat.le_refl _⟩, ⟨by (with_reducible repeat (first | apply Kd.R_alloc | apply Kd.R_drewN | apply Kd.R_drew)); exact HO108.out⟩, ⟨by repeat (first | (with_reducible first | exact HB.out | apply below_alloc | apply pw_below_drewN | apply below_drew1) | exact HB.out)⟩⟩
  case round =>
    clear H'
    try clear c1
    try clear p2
    try clear c3
    obtain ⟨x5_1, x6_1, x7_1, rfl, rfl, HA, HK1, HO_5, HB⟩ := hrel
    cases gk with
    | zero => exact absurd HA.out (by simp [collide_path.l0])
    | succ k1 =>
      have H := HA.out
      clear HA
      simp only [collide_path.l0] at H
      by_cases c5 : (wrap64 (x7_1 - x6_1)) > 1
      · rw [if_pos c5] at H
        have c5b0 : decide (1 < (wrap64 (x7_1 - x6_1))) = true := decide_eq_true c5
        clear c5
        replace H := Option.bind_eq_some_iff.mp H
        obtain ⟨t109, A60, H⟩ := H
        replace H : (if a0 < (wrap64 (x6_1 + t109)) then (if x5_1.length < 4398046511104 then (collide_path.l0 k1 a0 (x5_1 ++ [(⟨x6_1, wrap64 (x6_1 + t109), (⟨#[]⟩ : ByteArray)⟩ : S157)]) x6_1 (wrap64 (x6_1 + t109))) else (none)) else (if x5_1.length < 4398046511104 then (collide_path.l0 k1 a0 (x5_1 ++ [(⟨wrap64 (x6_1 + t109), x7_1, (⟨#[]⟩ : ByteArray)⟩ : S157)]) (wrap64 (x6_1 + t109)) x7_1) else (none))) = some r := H
        have A6 := Aside0.mk A60
        clear A60
        by_cases c7 : a0 < (wrap64 (x6_1 + t109))
        · rw [if_pos c7] at H
          have c7b0 : decide (a0 < (wrap64 (x6_1 + t109))) = true := decide_eq_true c7
          clear c7
          by_cases c8 : x5_1.length < 4398046511104
          · rw [if_pos c8] at H
            have LMc8 := Aside0.mk c8
            clear c8
            obtain ⟨y110, hy110⟩ : ∃ y_ : List (S157), y_ = (x5_1 ++ [(⟨x6_1, wrap64 (x6_1 + t109), (⟨#[]⟩ : ByteArray)⟩ : S157)]) := ⟨_, rfl⟩
            replace H : (collide_path.l0 k1 a0 y110 x6_1 (wrap64 (x6_1 + t109))) = some r := by first | (rw [hy110]; with_reducible exact H) | (have H2_ := (Option.bind_some _ _).symm.trans H; rw [hy110]; with_reducible exact H2_) | (have H2_ := (Option.bind_some _ _).symm.trans H; with_reducible exact H2_) | with_reducible exact H | (rw [hy110]; exact H) | exact H
            have Ny110 := Aside0.mk hy110
            clear hy110
            have H' := Aside0.mk H
            clear H
            go_wp2_with (first | ((with_reducible refine gate_callee (f := 130) rfl ?_); refine goesL_ (some 20) rfl rfl Try.func130 (by kernel_rfl) rfl #[.int .i64 (wrap64 (x7_1 - x6_1))] rfl (by (try simp only [List.map_toArray, List.map_cons, List.map_nil]); first | done | rfl | (simp only [List.length_drop, List.length_take]; rfl)) ?_; (with_reducible refine (collide_split.calls k1 (wrap64 (x7_1 - x6_1)) t109 _ A6.out).mono ?_); rintro e w' ⟨rfl, ⟨nd, rfl⟩⟩; refine ⟨_, rfl, ?_⟩) | ((with_reducible refine gate_builtin (b := .append) (xs := #[.tmp 32, .tmp 36]) rfl ?_); at_builtin; refine Kd.R_append k157 (w0 := w) w.heap.size rfl (.tmp 32) (.tmp 36) 121 157 (.agg #[(.int .i64 0), (.int .i64 0), (.string ⟨#[]⟩)]) 32 rfl Try.underlying121 info157 rfl (by decide) (by omega) u5 x5_1 (⟨x6_1, wrap64 (x6_1 + t109), (⟨#[]⟩ : ByteArray)⟩ : S157) [.int .i64 x6_1, .int .i64 (wrap64 (x6_1 + t109)), .string (⟨#[]⟩ : ByteArray)] (fun _ => True) (fun _ => False) rfl rfl ?aP (fun _ hk => hk.elim) ?aF ?aO ?aB ?aS ?aL ?_; (case aP => exact k157_mkM _ _ _ (⟨x6_1, wrap64 (x6_1 + t109), (⟨#[]⟩ : ByteArray)⟩ : S157)); (case aB => exact (by repeat (first | (with_reducible first | exact HB.out | apply below_alloc | apply pw_below_drewN | apply below_drew1) | exact HB.out))); (case aF => exact (fun _ _ => trivial)); (case aO => exact (by (with_reducible repeat (first | apply Kd.R_alloc | apply Kd.R_drewN | apply Kd.R_drew)); exact HO_5.out)); (case aS => exact (below_size (by repeat (first | (with_reducible first | exact HB.out | apply below_alloc | apply pw_below_drewN | apply below_drew1) | exact HB.out)))); (case aL => have := LMc8.out; omega); intro v111 w9 ho hb hg hat; rw [← Ny110.out] at ho; have n0_ := Aside0.mk (hb); have n1_ := Aside0.mk (ho); clear HB; clear HO_5; have HB := n0_; have HO112 := n1_; clear n0_ n1_; clear ho hb hg hat))
            go_roundg k1
            case measure => have := HK1.out; omega
            case rel => exact ⟨(y110), (x6_1), (wrap64 (x6_1 + t109)), (by first | rfl | (simp; done) | (simp [*]; done)), (by first | rfl | (simp; done) | (simp [*]; done)), H', ⟨by have := HK1.out; omega⟩, ⟨by (with_reducible repeat (first | apply Kd.R_alloc | apply Kd.R_drewN | apply Kd.R_drew)); exact HO112.out⟩, ⟨by repeat (first | (with_reducible first | exact HB.out | apply below_alloc | apply pw_below_drewN | apply below_drew1) | exact HB.out)⟩⟩
          · rw [if_neg c8] at H
            exact absurd H (by simp)
        · rw [if_neg c7] at H
          have c7b0 : decide (a0 < (wrap64 (x6_1 + t109))) = false := decide_eq_false c7
          clear c7
          by_cases c10 : x5_1.length < 4398046511104
          · rw [if_pos c10] at H
            have LMc10 := Aside0.mk c10
            clear c10
            obtain ⟨y113, hy113⟩ : ∃ y_ : List (S157), y_ = (x5_1 ++ [(⟨wrap64 (x6_1 + t109), x7_1, (⟨#[]⟩ : ByteArray)⟩ : S157)]) := ⟨_, rfl⟩
            replace H : (collide_path.l0 k1 a0 y113 (wrap64 (x6_1 + t109)) x7_1) = some r := by first | (rw [hy113]; with_reducible exact H) | (have H2_ := (Option.bind_some _ _).symm.trans H; rw [hy113]; with_reducible exact H2_) | (have H2_ := (Option.bind_some _ _).symm.trans H; with_reducible exact H2_) | with_reducible exact H | (rw [hy113]; exact H) | exact H
            have Ny113 := Aside0.mk hy113
            clear hy113
            have H' := Aside0.mk H
            clear H
            go_wp2_with (first | ((with_reducible refine gate_callee (f := 130) rfl ?_); refine goesL_ (some 20) rfl rfl Try.func130 (by kernel_rfl) rfl #[.int .i64 (wrap64 (x7_1 - x6_1))] rfl (by (try simp only [List.map_toArray, List.map_cons, List.map_nil]); first | done | rfl | (simp only [List.length_drop, List.length_take]; rfl)) ?_; (with_reducible refine (collide_split.calls k1 (wrap64 (x7_1 - x6_1)) t109 _ A6.out).mono ?_); rintro e w' ⟨rfl, ⟨nd, rfl⟩⟩; refine ⟨_, rfl, ?_⟩) | ((with_reducible refine gate_builtin (b := .append) (xs := #[.tmp 32, .tmp 36]) rfl ?_); at_builtin; refine Kd.R_append k157 (w0 := w) w.heap.size rfl (.tmp 32) (.tmp 36) 121 157 (.agg #[(.int .i64 0), (.int .i64 0), (.string ⟨#[]⟩)]) 32 rfl Try.underlying121 info157 rfl (by decide) (by omega) u5 x5_1 (⟨wrap64 (x6_1 + t109), x7_1, (⟨#[]⟩ : ByteArray)⟩ : S157) [.int .i64 (wrap64 (x6_1 + t109)), .int .i64 x7_1, .string (⟨#[]⟩ : ByteArray)] (fun _ => True) (fun _ => False) rfl rfl ?aP (fun _ hk => hk.elim) ?aF ?aO ?aB ?aS ?aL ?_; (case aP => exact k157_mkM _ _ _ (⟨wrap64 (x6_1 + t109), x7_1, (⟨#[]⟩ : ByteArray)⟩ : S157)); (case aB => exact (by repeat (first | (with_reducible first | exact HB.out | apply below_alloc | apply pw_below_drewN | apply below_drew1) | exact HB.out))); (case aF => exact (fun _ _ => trivial)); (case aO => exact (by (with_reducible repeat (first | apply Kd.R_alloc | apply Kd.R_drewN | apply Kd.R_drew)); exact HO_5.out)); (case aS => exact (below_size (by repeat (first | (with_reducible first | exact HB.out | apply below_alloc | apply pw_below_drewN | apply below_drew1) | exact HB.out)))); (case aL => have := LMc10.out; omega); intro v114 w11 ho hb hg hat; rw [← Ny113.out] at ho; have n0_ := Aside0.mk (hb); have n1_ := Aside0.mk (ho); clear HB; clear HO_5; have HB := n0_; have HO115 := n1_; clear n0_ n1_; clear ho hb hg hat))
            go_roundg k1
            case measure => have := HK1.out; omega
            case rel => exact ⟨(y113), (wrap64 (x6_1 + t109)), (x7_1), (by first | rfl | (simp; done) | (simp [*]; done)), (by first | rfl | (simp; done) | (simp [*]; done)), H', ⟨by have := HK1.out; omega⟩, ⟨by (with_reducible repeat (first | apply Kd.R_alloc | apply Kd.R_drewN | apply Kd.R_drew)); exact HO115.out⟩, ⟨by repeat (first | (with_reducible first | exact HB.out | apply below_alloc | apply pw_below_drewN | apply below_drew1) | exact HB.out)⟩⟩
          · rw [if_neg c10] at H
            exact absurd H (by simp)
      · rw [if_neg c5] at H
        have c5b0 : decide (1 < (wrap64 (x7_1 - x6_1))) = false := decide_eq_false c5
        clear c5
        obtain rfl := Option.some.inj H
        go_wp2
        go_ret
        exact ⟨_, by first | rfl | (simp [errW_none, errW_some] <;> rfl) | (simp [*, errW_none, errW_some] <;> rfl), by (with_reducible repeat (first | apply Kd.R_alloc | apply Kd.R_drewN | apply Kd.R_drew)); exact HO_5.out, by repeat (first | (with_reducible first | exact HB.out | apply below_alloc | apply pw_below_drewN | apply below_drew1) | exact HB.out)⟩

end Go.Proofs.Ytolapikiflodfaa.PCollideLeaves
