import Derived.Test.YtolapikiflodfaaQCollideLeavesx0
namespace Go.Proofs.Ytolapikiflodfaa.PCollideLeaves
open Go.RowKit Go.Proofs.YtolapikiflodfaaW.PrintWords Go.Proofs.YtolapikiflodfaaW.PrintLast Go.Proofs.YtolapikiflodfaaW.PrintMore
attribute [local go_sem] max2_int min2_int max_two min_two max_three min_three max_four min_four   -- for this text's walks alone
set_option linter.unusedVariables false
set_option linter.unusedSimpArgs false

/-! ### annalistref08_weak: function 82 -/
def annalistref08_weak.l0 : Nat → ByteArray → Int → Int → Int → Option (ByteArray)
  | 0, _, _, _, _ => none
  | k + 1, x0, x1, x5, x6 => if x6 < (x0.size : Int) then (if 0 ≤ x6 then (annalistref08_weak.l0 k x0 x1 (Int.tmod (wrap64 ((wrap64 ((wrap64 (x5 * 31)) + (wrap64 (bt x0 x6)))) + x6)) 1009) (wrap64 (x6 + 1))) else (none)) else (if 32 ≤ 281474976710656 then ((some (List.replicate 32 0 : List Int)).bind fun y101 => (if x1 = 0 then (none) else (if 0 < (y101.length : Int) then (some (strOfNums (y101.set (0 : Int).toNat ((Int.tmod x5 x1) % 256)))) else (none)))) else (none))
def annalistref08_weak.f (k : Nat) (a0 : ByteArray) (a1 : Int) : Option (ByteArray) := annalistref08_weak.l0 k a0 a1 7 0
theorem annalistref08_weak.mono_l : ∀ k, (∀ y0 y1 y2 y3, LeO (annalistref08_weak.l0 k y0 y1 y2 y3) (annalistref08_weak.l0 (k + 1) y0 y1 y2 y3))
  | 0 => fun _ _ _ _ r h => by simp [annalistref08_weak.l0] at h
  | k + 1 => by
    have ih0 := annalistref08_weak.mono_l k
    · intro y0 y1 y2 y3
      unfold annalistref08_weak.l0
      repeat' first
      | (with_reducible exact ih0 _ _ _ _)
      | (with_reducible exact LeO.refl _)
      | (with_reducible exact LeO.none _)
      | (with_reducible refine LeO.ite ?_ ?_)
      | (with_reducible refine LeO.bind ?_ (fun _ => ?_))
      | exact ih0 _ _ _ _
      | exact LeO.none _
      | refine LeO.ite ?_ ?_
      | refine LeO.bind ?_ (fun _ => ?_)
theorem annalistref08_weak.mono : ∀ a0 a1 k, LeO (annalistref08_weak.f k a0 a1) (annalistref08_weak.f (k + 1) a0 a1) := by
  intro a0 a1 k
  have ih0 := annalistref08_weak.mono_l k
  unfold annalistref08_weak.f
  repeat' first
      | (with_reducible exact ih0 _ _ _ _)
      | (with_reducible exact LeO.refl _)
      | (with_reducible exact LeO.none _)
      | (with_reducible refine LeO.ite ?_ ?_)
      | (with_reducible refine LeO.bind ?_ (fun _ => ?_))
      | exact ih0 _ _ _ _
      | exact LeO.none _
      | refine LeO.ite ?_ ?_
      | refine LeO.bind ?_ (fun _ => ?_)
set_option maxHeartbeats 8000000 in
set_option maxRecDepth 100000 in
theorem annalistref08_weak.calls (k : Nat) (a0 : ByteArray) (a1 : Int) (r : ByteArray) (w : World) (h : annalistref08_weak.f k a0 a1 = some r) :
    Calls Try.prog 82 #[.string a0, .int .i64 a1] w fun e w' => e = .returned (.string r) ∧ Below w.heap.size w w' := by
  have HB := Aside0.mk (Below.refl w.heap.size w)
  have H : (annalistref08_weak.l0 k a0 a1 7 0) = some r := h
  clear h
  have H' := Aside0.mk H
  clear H
  go_enter Try.func82, Try.ntmps82
  go_wp2
  go_loopg [5, 6] k (fun kq v5 v6 w' => ∃ (x5_1 : Int) (x6_1 : Int), v5 = .int .i64 x5_1 ∧ v6 = .int .i64 x6_1 ∧ Aside0 (annalistref08_weak.l0 kq a0 a1 x5_1 x6_1 = some r) ∧ Aside0 (kq ≤ k) ∧ Aside0 (Below w.heap.size w w'))
  case atStart => exact ⟨(7), (0), (by first | rfl | (simp; done) | (simp [*]; done)), (by first | rfl | (simp; done) | (simp [*]; done)), H', ⟨Nat.le_refl _⟩, ⟨by repeat (first | (with_reducible first | exact HB.out | apply below_alloc | apply pw_below_drewN | apply below_drew1) | exact HB.out)⟩⟩
  case round =>
    clear H'
    try clear p2
    obtain ⟨x5_1, x6_1, rfl, rfl, HA, HK1, HB⟩ := hrel
    cases gk with
    | zero => exact absurd HA.out (by simp [annalistref08_weak.l0])
    | succ k1 =>
      have H := HA.out
      clear HA
      simp only [annalistref08_weak.l0] at H
      by_cases c3 : x6_1 < (a0.size : Int)
      · rw [if_pos c3] at H
        have c3b0 : decide (x6_1 < (a0.size : Int)) = true := decide_eq_true c3
        clear c3
        by_cases c4 : 0 ≤ x6_1
        · rw [if_pos c4] at H
          have c4b0 : decide (0 ≤ x6_1) = true := decide_eq_true c4
          clear c4
          have H' := Aside0.mk H
          clear H
          have p5 : 0 ≤ (x6_1 : Int) := of_decide_eq_true (by first | (with_reducible assumption) | assumption)
          have q5 : x6_1 < (a0.size : Int) := of_decide_eq_true (by first | (with_reducible assumption) | assumption)
          have hx5 := bt_at a0 x6_1
          replace p5 := eq_true p5
          replace q5 := eq_true q5
          go_wp2
          go_roundg k1
          case measure => have := HK1.out; omega
          case rel => exact ⟨(Int.tmod (wrap64 ((wrap64 ((wrap64 (x5_1 * 31)) + (wrap64 (bt a0 x6_1)))) + x6_1)) 1009), (wrap64 (x6_1 + 1)), (by first | rfl | (simp; done) | (simp [*]; done)), (by first | rfl | (simp; done) | (simp [*]; done)), H', ⟨by have := HK1.out; omega⟩, ⟨by repeat (first | (with_reducible first | exact HB.out | apply below_alloc | apply pw_below_drewN | apply below_drew1) | exact HB.out)⟩⟩
        · rw [if_neg c4] at H
          exact absurd H (by simp)
      · rw [if_neg c3] at H
        have c3b0 : decide (x6_1 < (a0.size : Int)) = false := decide_eq_false c3
        clear c3
        by_cases c6 : 32 ≤ 281474976710656
        · rw [if_pos c6] at H
          have c6b0 := eq_true c6
          have c6b1 : decide (32 ≤ 281474976710656) = true := decide_eq_true c6
          clear c6
          obtain ⟨y101, hy101⟩ : ∃ y_ : List Int, y_ = (List.replicate 32 0) := ⟨_, rfl⟩
          replace H : (if a1 = 0 then (none) else (if 0 < (y101.length : Int) then (some (strOfNums (y101.set (0 : Int).toNat ((Int.tmod x5_1 a1) % 256)))) else (none))) = some r := by first | (rw [hy101]; with_reducible exact H) | (have H2_ := (Option.bind_some _ _).symm.trans H; rw [hy101]; with_reducible exact H2_) | (have H2_ := (Option.bind_some _ _).symm.trans H; with_reducible exact H2_) | with_reducible exact H | (rw [hy101]; exact H) | exact H
          have Ny101 := Aside0.mk hy101
          clear hy101
          by_cases c7 : a1 = 0
          · rw [if_pos c7] at H
            exact absurd H (by simp)
          · rw [if_neg c7] at H
            have c7b0 : (a1 == 0) = false := beq_eq_false_iff_ne.mpr c7
            have c7b1 : (a1 != 0) = true := bne_iff_ne.mpr c7
            by_cases c8 : 0 < (y101.length : Int)
            · rw [if_pos c8] at H
              have c8b0 : decide (0 < (y101.length : Int)) = true := decide_eq_true c8
              have c8b1 : decide (0 < y101.length) = true := decide_eq_true (by omega)
              clear c8
              obtain ⟨y104, hy104⟩ : ∃ y_ : List Int, y_ = (y101.set (0 : Int).toNat ((Int.tmod x5_1 a1) % 256)) := ⟨_, rfl⟩
              replace H : (some (strOfNums y104)) = some r := by first | (rw [hy104]; with_reducible exact H) | (have H2_ := (Option.bind_some _ _).symm.trans H; rw [hy104]; with_reducible exact H2_) | (have H2_ := (Option.bind_some _ _).symm.trans H; with_reducible exact H2_) | with_reducible exact H | (rw [hy104]; exact H) | exact H
              have Ny104 := Aside0.mk hy104
              clear hy104
              obtain rfl := Option.some.inj H
              go_wp2_with (first | ((with_reducible refine gate_dst (N := 24) rfl ?_); refine Kd.R_make (Kd.int .u8) _ 5 rfl (N := 24) rfl 161 _ _ rfl 32 rfl rfl Try.underlying161 (.int .u8 0) 1 info5 rfl (by decide) (by omega) 0 (ok := fun _ => True) (okp := fun _ => True) rfl (fun _ hk => hk) trivial (by omega) (by omega) (Below.refl _ _) (Nat.le_refl _) ?_; intro v102 w10 ho11 hb hg_ hnew_; clear hg_ hnew_; (first | rw [← Ny101.out] at ho11 | (simp only [Int.reduceToNat] at ho11; rw [← Ny101.out] at ho11)); have n0_ := Aside0.mk (Kd.R_lower ho11 (below_size (by repeat (first | (with_reducible first | exact HB.out | apply below_alloc | apply pw_below_drewN | apply below_drew1) | exact HB.out)))); have n1_ := Aside0.mk (below_step (by repeat (first | (with_reducible first | exact HB.out | apply below_alloc | apply pw_below_drewN | apply below_drew1) | exact HB.out)) hb); clear HB; have HO103 := n0_; have HB := n1_; clear n0_ n1_; clear hb ho11; have p9 : 0 ≤ (0 : Int) := (by omega); have q9 : (0 : Int) < ((y101.length : Int) : Int) := of_decide_eq_true (by first | (with_reducible assumption) | assumption); have qi9 : (0 < y101.length) = True := eq_true (by omega); obtain ⟨go9, co9, eo9, gb9, gl9, cl9, HG9⟩ := Kd.R_form HO103.out (by omega); (first | cases eo9 | (injection eo9 with ea_ en_ ec_; (first | subst ea_ | (injection ea_ with ea_; subst ea_)); subst ec_; clear en_)); have GB9 := Aside0.mk gb9; have GG9 := Aside0.mk HG9; clear gb9 gl9 HG9; obtain ⟨hx9_0, hf9_0⟩ := Kd.R_celln 0 HO103.out (0 : Int) p9 q9; (try rw [show ((0 : Int)).toNat = 0 from rfl] at hx9_0); (try simp only [Nat.reduceMul, Nat.zero_mul, Nat.zero_add, Nat.reduceAdd] at hx9_0); (try rw [show ((0 : Int)).toNat = 0 from rfl] at hf9_0); (try simp only [Nat.reduceMul, Nat.zero_mul, Nat.zero_add, Nat.reduceAdd] at hf9_0); replace p9 := eq_true p9; replace q9 := eq_true q9; obtain ⟨hy12_, hz12_⟩ := Kd.R_celln 0 HO103.out (0 : Int) (by omega) (of_decide_eq_true (by first | (with_reducible assumption) | assumption)); (try simp only [Int.reduceToNat, Int.toNat_zero, Int.toNat_ofNat, Nat.reduceMul, Nat.zero_mul, Nat.zero_add] at hy12_ hz12_); (try rw [show ((0 : Int)).toNat = 0 from rfl] at hy12_); (try rw [show ((0 : Int)).toNat = 0 from rfl] at hz12_); have HP12 := Kd.R_putg HO103.out (0 : Int) ((Int.tmod x5_1 a1) % 256)) | ((with_reducible refine gate_store (t := 5) (p := 30) rfl ?_); refine store_event (t := 5) (p := 30) (v := ?vo_w13) (w1 := (w10.setCell ⟨go9, (0 : Int).toNat, none⟩ (.int .u8 ((Int.tmod x5_1 a1) % 256)))) ?hg ?ho ?hn ?hr ?_; (case ho => rfl); (case hg => rfl); (case hn => rfl); (case hr => first | (go_simp; done) | (go_simp; rfl)); intro w13 hw; have hg : w10.grownBy w13 (some go9) := (by rw [hw]; exact HP12.2); have hp_ : Kd.R (Kd.int .u8) 5 w13 w.heap.size (fun _ => True) (.slice (some ⟨go9, 0, none⟩) y101.length co9) y104 := (by rw [hw, Ny104.out]; exact HP12.1); clear HP12; have n0_ := Aside0.mk (hp_); have n1_ := Aside0.mk ((by rw [hw]; exact below_set (HB.out) GB9.out : Below w.heap.size w w13)); clear HO103; clear HB; have HO103 := n0_; have HB := n1_; clear n0_ n1_; clear hg hw hp_; have hcv14 := own_string (P := Try.prog) Try.underlying161 Try.underlying5 Try.underlying9 (Kd.own_of_R HO103.out)))
              go_ret
              exact ⟨by first | rfl | (simp [errW_none, errW_some] <;> rfl) | (simp [*, errW_none, errW_some] <;> rfl), by repeat (first | (with_reducible first | exact HB.out | apply below_alloc | apply pw_below_drewN | apply below_drew1) | exact HB.out)⟩
            · rw [if_neg c8] at H
              exact absurd H (by simp)
        · rw [if_neg c6] at H
          exact absurd H (by simp)

end Go.Proofs.Ytolapikiflodfaa.PCollideLeaves
