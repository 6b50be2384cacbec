import Derived.Test.YtolapikiflodfaaQCollideLeavesx0
import Derived.Test.YtolapikiflodfaaQCollideLeavesx10
import Derived.Test.YtolapikiflodfaaQCollideLeavesx11
namespace Go.Proofs.Ytolapikiflodfaa.PCollideLeaves
open Go.RowKit Go.Proofs.YtolapikiflodfaaW.PrintWords Go.Proofs.YtolapikiflodfaaW.PrintLast Go.Proofs.YtolapikiflodfaaW.PrintMore
attribute [local go_sem] max2_int min2_int max_two min_two max_three min_three max_four min_four   -- for this text's walks alone
set_option linter.unusedVariables false
set_option linter.unusedSimpArgs false

/-! ### annalistref08_up: function 61 -/
def annalistref08_up.f : Nat → Int → ByteArray → Int → Int → List ByteArray → Option (ByteArray × Bool)
  | 0, _, _, _, _, _ => none
  | k + 1, a0, a1, a2, a3, l4 => if a3 = 1 then (some (a1, ((l4.length : Int) == 0))) else (if (wrap64 ((l4.length : Int) - 1)) < 0 then (some ((⟨#[]⟩ : ByteArray), false)) else ((annalistref08_half.f k a3).bind fun t139 => (if a2 < t139 then (if 0 ≤ (wrap64 ((l4.length : Int) - 1)) then (if (wrap64 ((l4.length : Int) - 1)) ≤ (l4.length : Int) then ((annalistref08_up.f k a0 a1 a2 t139 (l4.take ((wrap64 ((l4.length : Int) - 1)) : Int).toNat)).bind fun bt141 => (if 1 + bt141.1.size ≤ 9223372036854775807 then (if (wrap64 ((l4.length : Int) - 1)) < (l4.length : Int) then (if ((⟨#[1]⟩ : ByteArray) ++ bt141.1).size + (rdOf ByteArray.empty l4 (wrap64 ((l4.length : Int) - 1))).size ≤ 9223372036854775807 then ((annalistref08_Hash.f k a0 (((⟨#[1]⟩ : ByteArray) ++ bt141.1) ++ (rdOf ByteArray.empty l4 (wrap64 ((l4.length : Int) - 1))))).bind fun t144 => (some (t144, bt141.2))) else (none)) else (none)) else (none))) else (none)) else (none)) else (if 0 ≤ (wrap64 ((l4.length : Int) - 1)) then (if (wrap64 ((l4.length : Int) - 1)) ≤ (l4.length : Int) then ((annalistref08_up.f k a0 a1 (wrap64 (a2 - t139)) (wrap64 (a3 - t139)) (l4.take ((wrap64 ((l4.length : Int) - 1)) : Int).toNat)).bind fun bt146 => (if (wrap64 ((l4.length : Int) - 1)) < (l4.length : Int) then (if 1 + (rdOf ByteArray.empty l4 (wrap64 ((l4.length : Int) - 1))).size ≤ 9223372036854775807 then (if ((⟨#[1]⟩ : ByteArray) ++ (rdOf ByteArray.empty l4 (wrap64 ((l4.length : Int) - 1)))).size + bt146.1.size ≤ 9223372036854775807 then ((annalistref08_Hash.f k a0 (((⟨#[1]⟩ : ByteArray) ++ (rdOf ByteArray.empty l4 (wrap64 ((l4.length : Int) - 1)))) ++ bt146.1)).bind fun t149 => (some (t149, bt146.2))) else (none)) else (none)) else (none))) else (none)) else (none)))))
theorem annalistref08_up.mono_l : ∀ k, (∀ y0 y1 y2 y3 y4, LeO (annalistref08_up.f k y0 y1 y2 y3 y4) (annalistref08_up.f (k + 1) y0 y1 y2 y3 y4))
  | 0 => fun _ _ _ _ _ r h => by simp [annalistref08_up.f] at h
  | k + 1 => by
    have ih0 := annalistref08_up.mono_l k
    · intro y0 y1 y2 y3 y4
      unfold annalistref08_up.f
      repeat' first
      | (with_reducible exact ih0 _ _ _ _ _)
      | (with_reducible exact annalistref08_Hash.mono _ _ _)
      | (with_reducible exact annalistref08_half.mono _ _)
      | (with_reducible exact LeO.refl _)
      | (with_reducible exact LeO.none _)
      | (with_reducible refine LeO.ite ?_ ?_)
      | (with_reducible refine LeO.bind ?_ (fun _ => ?_))
      | exact ih0 _ _ _ _ _
      | exact annalistref08_Hash.mono _ _ _
      | exact annalistref08_half.mono _ _
      | exact LeO.none _
      | refine LeO.ite ?_ ?_
      | refine LeO.bind ?_ (fun _ => ?_)
theorem annalistref08_up.mono : ∀ a0 a1 a2 a3 a4 k, LeO (annalistref08_up.f k a0 a1 a2 a3 a4) (annalistref08_up.f (k + 1) a0 a1 a2 a3 a4) := by
  intro a0 a1 a2 a3 a4 k
  have ih0 := annalistref08_up.mono_l k
  exact ih0 a0 a1 a2 a3 a4
set_option maxHeartbeats 8000000 in
set_option maxRecDepth 100000 in
theorem annalistref08_up.calls (k : Nat) : ∀ (a0 : Int) (a1 : ByteArray) (a2 : Int) (a3 : Int) (A4 : Option Addr) (c4 : Nat) (l4 : List ByteArray) (r1 : ByteArray) (r2 : Bool) (w : World) (hr4 : Kd.C Kd.string w A4 l4.length l4) (hc4 : l4.length ≤ c4) (h : annalistref08_up.f k a0 a1 a2 a3 l4 = some (r1, r2)),
    Calls Try.prog 61 #[.int .u8 a0, .string a1, .int .i64 a2, .int .i64 a3, .slice A4 l4.length c4] w fun e w' => e = .returned (.tuple #[.string r1, .bool r2]) ∧ Below w.heap.size w w' := by
  induction k using Nat.strongRecOn with
  | _ k ih =>
  intro a0 a1 a2 a3 A4 c4 l4 r1 r2 w hr4 hc4 h
  cases k with
  | zero => exact absurd h (by simp [annalistref08_up.f])
  | succ k =>
  simp only [annalistref08_up.f] at h
  have HR4 := Aside0.mk hr4
  have HC4 := Aside0.mk hc4
  clear hr4 hc4
  have HB := Aside0.mk (Below.refl w.heap.size w)
  have H : (if a3 = 1 then (some (a1, ((l4.length : Int) == 0))) else (if (wrap64 ((l4.length : Int) - 1)) < 0 then (some ((⟨#[]⟩ : ByteArray), false)) else ((annalistref08_half.f k a3).bind fun t139 => (if a2 < t139 then (if 0 ≤ (wrap64 ((l4.length : Int) - 1)) then (if (wrap64 ((l4.length : Int) - 1)) ≤ (l4.length : Int) then ((annalistref08_up.f k a0 a1 a2 t139 (l4.take ((wrap64 ((l4.length : Int) - 1)) : Int).toNat)).bind fun bt141 => (if 1 + bt141.1.size ≤ 9223372036854775807 then (if (wrap64 ((l4.length : Int) - 1)) < (l4.length : Int) then (if ((⟨#[1]⟩ : ByteArray) ++ bt141.1).size + (rdOf ByteArray.empty l4 (wrap64 ((l4.length : Int) - 1))).size ≤ 9223372036854775807 then ((annalistref08_Hash.f k a0 (((⟨#[1]⟩ : ByteArray) ++ bt141.1) ++ (rdOf ByteArray.empty l4 (wrap64 ((l4.length : Int) - 1))))).bind fun t144 => (some (t144, bt141.2))) else (none)) else (none)) else (none))) else (none)) else (none)) else (if 0 ≤ (wrap64 ((l4.length : Int) - 1)) then (if (wrap64 ((l4.length : Int) - 1)) ≤ (l4.length : Int) then ((annalistref08_up.f k a0 a1 (wrap64 (a2 - t139)) (wrap64 (a3 - t139)) (l4.take ((wrap64 ((l4.length : Int) - 1)) : Int).toNat)).bind fun bt146 => (if (wrap64 ((l4.length : Int) - 1)) < (l4.length : Int) then (if 1 + (rdOf ByteArray.empty l4 (wrap64 ((l4.length : Int) - 1))).size ≤ 9223372036854775807 then (if ((⟨#[1]⟩ : ByteArray) ++ (rdOf ByteArray.empty l4 (wrap64 ((l4.length : Int) - 1)))).size + bt146.1.size ≤ 9223372036854775807 then ((annalistref08_Hash.f k a0 (((⟨#[1]⟩ : ByteArray) ++ (rdOf ByteArray.empty l4 (wrap64 ((l4.length : Int) - 1)))) ++ bt146.1)).bind fun t149 => (some (t149, bt146.2))) else (none)) else (none)) else (none))) else (none)) else (none)))))) = some (r1, r2) := h
  clear h
  by_cases c6 : a3 = 1
  · rw [if_pos c6] at H
    have c6b0 : (a3 == 1) = true := beq_iff_eq.mpr c6
    have c6b1 : (a3 != 1) = false := bne_eq_false_iff_eq.mpr c6
    clear c6
    simp only [Option.some.injEq, Prod.mk.injEq] at H
    obtain ⟨rfl, rfl⟩ := H
    go_enter Try.func61, Try.ntmps61
    go_wp2
    go_ret2
    exact ⟨by first | rfl | (simp [errW_none, errW_some] <;> rfl) | (simp [*, errW_none, errW_some] <;> rfl), by repeat (first | (with_reducible first | exact HB.out | apply below_alloc | apply pw_below_drewN | apply below_drew1) | exact HB.out)⟩
  · rw [if_neg c6] at H
    have c6b0 : (a3 == 1) = false := beq_eq_false_iff_ne.mpr c6
    have c6b1 : (a3 != 1) = true := bne_iff_ne.mpr c6
    by_cases c7 : (wrap64 ((l4.length : Int) - 1)) < 0
    · rw [if_pos c7] at H
      have c7b0 : decide ((wrap64 ((l4.length : Int) - 1)) < 0) = true := decide_eq_true c7
      clear c7
      simp only [Option.some.injEq, Prod.mk.injEq] at H
      obtain ⟨rfl, rfl⟩ := H
      go_enter Try.func61, Try.ntmps61
      go_wp2
      go_ret2
      exact ⟨by first | rfl | (simp [errW_none, errW_some] <;> rfl) | (simp [*, errW_none, errW_some] <;> rfl), by repeat (first | (with_reducible first | exact HB.out | apply below_alloc | apply pw_below_drewN | apply below_drew1) | exact HB.out)⟩
    · rw [if_neg c7] at H
      have c7b0 : decide ((wrap64 ((l4.length : Int) - 1)) < 0) = false := decide_eq_false c7
      clear c7
      replace H := Option.bind_eq_some_iff.mp H
      obtain ⟨t139, A80, H⟩ := H
      replace H : (if a2 < t139 then (if 0 ≤ (wrap64 ((l4.length : Int) - 1)) then (if (wrap64 ((l4.length : Int) - 1)) ≤ (l4.length : Int) then ((annalistref08_up.f k a0 a1 a2 t139 (l4.take ((wrap64 ((l4.length : Int) - 1)) : Int).toNat)).bind fun bt141 => (if 1 + bt141.1.size ≤ 9223372036854775807 then (if (wrap64 ((l4.length : Int) - 1)) < (l4.length : Int) then (if ((⟨#[1]⟩ : ByteArray) ++ bt141.1).size + (rdOf ByteArray.empty l4 (wrap64 ((l4.length : Int) - 1))).size ≤ 9223372036854775807 then ((annalistref08_Hash.f k a0 (((⟨#[1]⟩ : ByteArray) ++ bt141.1) ++ (rdOf ByteArray.empty l4 (wrap64 ((l4.length : Int) - 1))))).bind fun t144 => (some (t144, bt141.2))) else (none)) else (none)) else (none))) else (none)) else (none)) else (if 0 ≤ (wrap64 ((l4.length : Int) - 1)) then (if (wrap64 ((l4.length : Int) - 1)) ≤ (l4.length : Int) then ((annalistref08_up.f k a0 a1 (wrap64 (a2 - t139)) (wrap64 (a3 - t139)) (l4.take ((wrap64 ((l4.length : Int) - 1)) : Int).toNat)).bind fun bt146 => (if (wrap64 ((l4.length : Int) - 1)) < (l4.length : Int) then (if 1 + (rdOf ByteArray.empty l4 (wrap64 ((l4.length : Int) - 1))).size ≤ 9223372036854775807 then (if ((⟨#[1]⟩ : ByteArray) ++ (rdOf ByteArray.empty l4 (wrap64 ((l4.length : Int) - 1)))).size + bt146.1.size ≤ 9223372036854775807 then ((annalistref08_Hash.f k a0 (((⟨#[1]⟩ : ByteArray) ++ (rdOf ByteArray.empty l4 (wrap64 ((l4.length : Int) - 1)))) ++ bt146.1)).bind fun t149 => (some (t149, bt146.2))) else (none)) else (none)) else (none))) else (none)) else (none))) = some (r1, r2) := H
      have A8 := Aside0.mk A80
      clear A80
      by_cases c9 : a2 < t139
      · rw [if_pos c9] at H
        have c9b0 : decide (a2 < t139) = true := decide_eq_true c9
        clear c9
        obtain ⟨ji10, hji10⟩ : ∃ j_ : Int, (wrap64 ((l4.length : Int) - 1)) = j_ := ⟨_, rfl⟩
        replace H : (if 0 ≤ (ji10) then (if (ji10) ≤ (l4.length : Int) then ((annalistref08_up.f k a0 a1 a2 t139 (l4.take ((ji10) : Int).toNat)).bind fun bt141 => (if 1 + bt141.1.size ≤ 9223372036854775807 then (if (ji10) < (l4.length : Int) then (if ((⟨#[1]⟩ : ByteArray) ++ bt141.1).size + (rdOf ByteArray.empty l4 (ji10)).size ≤ 9223372036854775807 then ((annalistref08_Hash.f k a0 (((⟨#[1]⟩ : ByteArray) ++ bt141.1) ++ (rdOf ByteArray.empty l4 (ji10)))).bind fun t144 => (some (t144, bt141.2))) else (none)) else (none)) else (none))) else (none)) else (none)) = some (r1, r2) := by first | (rw [hji10] at H; exact H) | (simp only [hji10] at H ⊢; exact H)
        (try rw [hji10] at c7b0)
        (try rw [hji10] at A8)
        have hji10w : (IntKind.i64.wrap ((l4.length : Int) - 1)) = ji10 := (i64_w _).trans hji10
        by_cases c11 : 0 ≤ (ji10)
        · rw [if_pos c11] at H
          have c11b0 := eq_true c11
          have c11b1 : decide (0 ≤ (ji10)) = true := decide_eq_true c11
          clear c11
          by_cases c12 : (ji10) ≤ (l4.length : Int)
          · rw [if_pos c12] at H
            have c12b0 := eq_true c12
            have c12b1 : decide ((ji10) ≤ (l4.length : Int)) = true := decide_eq_true c12
            clear c12
            replace H := Option.bind_eq_some_iff.mp H
            obtain ⟨⟨t141, t142⟩, A130, H⟩ := H
            replace H : (if 1 + t141.size ≤ 9223372036854775807 then (if (ji10) < (l4.length : Int) then (if ((⟨#[1]⟩ : ByteArray) ++ t141).size + (rdOf ByteArray.empty l4 (ji10)).size ≤ 9223372036854775807 then ((annalistref08_Hash.f k a0 (((⟨#[1]⟩ : ByteArray) ++ t141) ++ (rdOf ByteArray.empty l4 (ji10)))).bind fun t144 => (some (t144, t142))) else (none)) else (none)) else (none)) = some (r1, r2) := H
            have A13 := Aside0.mk A130
            clear A130
            by_cases c14 : 1 + t141.size ≤ 9223372036854775807
            · rw [if_pos c14] at H
              have c14b0 := eq_true c14
              have c14b1 : decide (1 + t141.size ≤ 9223372036854775807) = true := decide_eq_true c14
              try have c14b2 : (9223372036854775807 < 1 + t141.size) = False := eq_false (Nat.not_lt.2 c14)
              by_cases c15 : (ji10) < (l4.length : Int)
              · rw [if_pos c15] at H
                have c15b0 : decide ((ji10) < (l4.length : Int)) = true := decide_eq_true c15
                clear c15
                by_cases c16 : ((⟨#[1]⟩ : ByteArray) ++ t141).size + (rdOf ByteArray.empty l4 (ji10)).size ≤ 9223372036854775807
                · rw [if_pos c16] at H
                  have c16b0 := eq_true c16
                  have c16b1 : decide (((⟨#[1]⟩ : ByteArray) ++ t141).size + (rdOf ByteArray.empty l4 (ji10)).size ≤ 9223372036854775807) = true := decide_eq_true c16
                  try have c16b2 : (9223372036854775807 < ((⟨#[1]⟩ : ByteArray) ++ t141).size + (rdOf ByteArray.empty l4 (ji10)).size) = False := eq_false (Nat.not_lt.2 c16)
                  replace H := Option.bind_eq_some_iff.mp H
                  obtain ⟨t144, A170, H⟩ := H
                  replace H : (some (t144, t142)) = some (r1, r2) := H
                  have A17 := Aside0.mk A170
                  clear A170
                  simp only [Option.some.injEq, Prod.mk.injEq] at H
                  obtain ⟨rfl, rfl⟩ := H
                  go_enter Try.func61, Try.ntmps61
                  go_wp2_with (first | ((with_reducible refine gate_callee (f := 96) rfl ?_); refine goesL_ (some 30) rfl rfl Try.func96 (by kernel_rfl) rfl #[.int .i64 a3] rfl (by (try simp only [List.map_toArray, List.map_cons, List.map_nil]); first | done | rfl | (simp only [List.length_drop, List.length_take]; rfl)) ?_; (with_reducible refine (annalistref08_half.calls k a3 t139 _ A8.out).mono ?_); rintro e w' ⟨rfl, ⟨nd, rfl⟩⟩; refine ⟨_, rfl, ?_⟩; obtain ⟨i018, hi018, _, hsz18, _⟩ := info_parts info9; obtain ⟨hcut18, hA18, hC18⟩ := print_take_of (P := Try.prog) Value.string (⟨#[]⟩ : ByteArray) 30 9 .i64 Try.underlying30 hi018 hsz18 A4 c4 l4 (ji10) (of_decide_eq_true (by first | (with_reducible assumption) | assumption)) (of_decide_eq_true (by first | (with_reducible assumption) | assumption)) HC4.out; have HR140 := Aside0.mk (Kd.C_of_reads (h1 := fun _ => rfl) (hA18 _ (Kd.reads_of_C HR4.out))); have HC140 := Aside0.mk hC18; clear hA18 hC18 hi018 hsz18) | ((with_reducible refine gate_callee (f := 61) rfl ?_); refine goesL_ (some 42) rfl rfl Try.func61 (by kernel_rfl) rfl #[.int .u8 a0, .string a1, .int .i64 a2, .int .i64 t139, .slice A4 (l4.take ((ji10) : Int).toNat).length c4] rfl (by (try simp only [List.map_toArray, List.map_cons, List.map_nil]); first | done | (rw [show (l4.take ((ji10) : Int).toNat).length = (ji10).toNat from (by rw [List.length_take]; have h_ : ((ji10) : Int) ≤ (l4.length : Int) := of_decide_eq_true (by first | (with_reducible assumption) | assumption); omega)] <;> rfl) | (simp only [hji10]; rfl) | rfl | (simp only [List.length_drop, List.length_take]; rfl)) ?_; (with_reducible refine (ih k (by omega) a0 a1 a2 t139 _ _ (l4.take ((ji10) : Int).toNat) t141 t142 _ ?side1 ?side2 A13.out).mono ?_); (case side1 => repeat (first | exact HR140.out | (with_reducible refine Kd.C_alloc ?_ _) | (with_reducible refine Kd.C_drewN ?_ _) | (with_reducible refine Kd.C_drew ?_))); (case side2 => exact HC140.out); rintro e w19 ⟨rfl, hb⟩; refine ⟨_, rfl, ?_⟩; have n0_ := Aside0.mk (below_step (by repeat (first | (with_reducible first | exact HB.out | apply below_alloc | apply pw_below_drewN | apply below_drew1) | exact HB.out)) hb); clear HB; have HB := n0_; clear n0_; (try clear hb); (try clear hb2); (try clear hk); (try clear hi); have p143 : 0 ≤ ((ji10) : Int) := of_decide_eq_true (by first | (with_reducible assumption) | assumption); have q143 : (ji10) < (l4.length : Int) := of_decide_eq_true (by first | (with_reducible assumption) | assumption); obtain ⟨ad143, e143, hx143_0⟩ := Kd.at_string HR4.out (ji10) p143 q143; cases e143; replace hx143_0 := (HB.out.cell (World.block_lt_of_cell? w _ hx143_0)).trans hx143_0; replace p143 := eq_true p143; replace q143 := eq_true q143) | ((with_reducible refine gate_callee (f := 62) rfl ?_); refine goesL_ (some 53) rfl rfl Try.func62 (by kernel_rfl) rfl #[.int .u8 a0, .string (((⟨#[1]⟩ : ByteArray) ++ t141) ++ (rdOf ByteArray.empty l4 (ji10)))] rfl (by (try simp only [List.map_toArray, List.map_cons, List.map_nil]); first | done | (simp only [hji10]; rfl) | rfl | (simp only [List.length_drop, List.length_take]; rfl)) ?_; (with_reducible refine (annalistref08_Hash.calls k a0 (((⟨#[1]⟩ : ByteArray) ++ t141) ++ (rdOf ByteArray.empty l4 (ji10))) t144 _ A17.out).mono ?_); rintro e w20 ⟨rfl, hb⟩; refine ⟨_, rfl, ?_⟩; have n0_ := Aside0.mk (below_step (by repeat (first | (with_reducible first | exact HB.out | apply below_alloc | apply pw_below_drewN | apply below_drew1) | exact HB.out)) hb); clear HB; have HB := n0_; clear n0_; (try clear hb); (try clear hb2); (try clear hk); (try clear hi)))
                  go_ret2
                  exact ⟨by first | rfl | (simp [errW_none, errW_some] <;> rfl) | (simp only [← hji10]; first | rfl | (simp [errW_none, errW_some] <;> rfl)) | (simp [*, errW_none, errW_some] <;> rfl), by repeat (first | (with_reducible first | exact HB.out | apply below_alloc | apply pw_below_drewN | apply below_drew1) | exact HB.out)⟩
                · rw [if_neg c16] at H
                  exact absurd H (by simp)
              · rw [if_neg c15] at H
                exact absurd H (by simp)
            · rw [if_neg c14] at H
              exact absurd H (by simp)
          · rw [if_neg c12] at H
            exact absurd H (by simp)
        · rw [if_neg c11] at H
          exact absurd H (by simp)
      · rw [if_neg c9] at H
        have c9b0 : decide (a2 < t139) = false := decide_eq_false c9
        clear c9
        obtain ⟨ji21, hji21⟩ : ∃ j_ : Int, (wrap64 ((l4.length : Int) - 1)) = j_ := ⟨_, rfl⟩
        replace H : (if 0 ≤ (ji21) then (if (ji21) ≤ (l4.length : Int) then ((annalistref08_up.f k a0 a1 (wrap64 (a2 - t139)) (wrap64 (a3 - t139)) (l4.take ((ji21) : Int).toNat)).bind fun bt146 => (if (ji21) < (l4.length : Int) then (if 1 + (rdOf ByteArray.empty l4 (ji21)).size ≤ 9223372036854775807 then (if ((⟨#[1]⟩ : ByteArray) ++ (rdOf ByteArray.empty l4 (ji21))).size + bt146.1.size ≤ 9223372036854775807 then ((annalistref08_Hash.f k a0 (((⟨#[1]⟩ : ByteArray) ++ (rdOf ByteArray.empty l4 (ji21))) ++ bt146.1)).bind fun t149 => (some (t149, bt146.2))) else (none)) else (none)) else (none))) else (none)) else (none)) = some (r1, r2) := by first | (rw [hji21] at H; exact H) | (simp only [hji21] at H ⊢; exact H)
        (try rw [hji21] at c7b0)
        (try rw [hji21] at A8)
        have hji21w : (IntKind.i64.wrap ((l4.length : Int) - 1)) = ji21 := (i64_w _).trans hji21
        by_cases c22 : 0 ≤ (ji21)
        · rw [if_pos c22] at H
          have c22b0 := eq_true c22
          have c22b1 : decide (0 ≤ (ji21)) = true := decide_eq_true c22
          clear c22
          by_cases c23 : (ji21) ≤ (l4.length : Int)
          · rw [if_pos c23] at H
            have c23b0 := eq_true c23
            have c23b1 : decide ((ji21) ≤ (l4.length : Int)) = true := decide_eq_true c23
            clear c23
            replace H := Option.bind_eq_some_iff.mp H
            obtain ⟨⟨t146, t147⟩, A240, H⟩ := H
            replace H : (if (ji21) < (l4.length : Int) then (if 1 + (rdOf ByteArray.empty l4 (ji21)).size ≤ 9223372036854775807 then (if ((⟨#[1]⟩ : ByteArray) ++ (rdOf ByteArray.empty l4 (ji21))).size + t146.size ≤ 9223372036854775807 then ((annalistref08_Hash.f k a0 (((⟨#[1]⟩ : ByteArray) ++ (rdOf ByteArray.empty l4 (ji21))) ++ t146)).bind fun t149 => (some (t149, t147))) else (none)) else (none)) else (none)) = some (r1, r2) := H
            have A24 := Aside0.mk A240
            clear A240
            by_cases c25 : (ji21) < (l4.length : Int)
            · rw [if_pos c25] at H
              have c25b0 : decide ((ji21) < (l4.length : Int)) = true := decide_eq_true c25
              clear c25
              by_cases c26 : 1 + (rdOf ByteArray.empty l4 (ji21)).size ≤ 9223372036854775807
              · rw [if_pos c26] at H
                have c26b0 := eq_true c26
                have c26b1 : decide (1 + (rdOf ByteArray.empty l4 (ji21)).size ≤ 9223372036854775807) = true := decide_eq_true c26
                try have c26b2 : (9223372036854775807 < 1 + (rdOf ByteArray.empty l4 (ji21)).size) = False := eq_false (Nat.not_lt.2 c26)
                by_cases c27 : ((⟨#[1]⟩ : ByteArray) ++ (rdOf ByteArray.empty l4 (ji21))).size + t146.size ≤ 9223372036854775807
                · rw [if_pos c27] at H
                  have c27b0 := eq_true c27
                  have c27b1 : decide (((⟨#[1]⟩ : ByteArray) ++ (rdOf ByteArray.empty l4 (ji21))).size + t146.size ≤ 9223372036854775807) = true := decide_eq_true c27
                  try have c27b2 : (9223372036854775807 < ((⟨#[1]⟩ : ByteArray) ++ (rdOf ByteArray.empty l4 (ji21))).size + t146.size) = False := eq_false (Nat.not_lt.2 c27)
                  replace H := Option.bind_eq_some_iff.mp H
                  obtain ⟨t149, A280, H⟩ := H
                  replace H : (some (t149, t147)) = some (r1, r2) := H
                  have A28 := Aside0.mk A280
                  clear A280
                  simp only [Option.some.injEq, Prod.mk.injEq] at H
                  obtain ⟨rfl, rfl⟩ := H
                  go_enter Try.func61, Try.ntmps61
                  go_wp2_with (first | ((with_reducible refine gate_callee (f := 96) rfl ?_); refine goesL_ (some 30) rfl rfl Try.func96 (by kernel_rfl) rfl #[.int .i64 a3] rfl (by (try simp only [List.map_toArray, List.map_cons, List.map_nil]); first | done | rfl | (simp only [List.length_drop, List.length_take]; rfl)) ?_; (with_reducible refine (annalistref08_half.calls k a3 t139 _ A8.out).mono ?_); rintro e w' ⟨rfl, ⟨nd, rfl⟩⟩; refine ⟨_, rfl, ?_⟩; obtain ⟨i029, hi029, _, hsz29, _⟩ := info_parts info9; obtain ⟨hcut29, hA29, hC29⟩ := print_take_of (P := Try.prog) Value.string (⟨#[]⟩ : ByteArray) 30 9 .i64 Try.underlying30 hi029 hsz29 A4 c4 l4 (ji21) (of_decide_eq_true (by first | (with_reducible assumption) | assumption)) (of_decide_eq_true (by first | (with_reducible assumption) | assumption)) HC4.out; have HR145 := Aside0.mk (Kd.C_of_reads (h1 := fun _ => rfl) (hA29 _ (Kd.reads_of_C HR4.out))); have HC145 := Aside0.mk hC29; clear hA29 hC29 hi029 hsz29) | ((with_reducible refine gate_callee (f := 61) rfl ?_); refine goesL_ (some 67) rfl rfl Try.func61 (by kernel_rfl) rfl #[.int .u8 a0, .string a1, .int .i64 (wrap64 (a2 - t139)), .int .i64 (wrap64 (a3 - t139)), .slice A4 (l4.take ((ji21) : Int).toNat).length c4] rfl (by (try simp only [List.map_toArray, List.map_cons, List.map_nil]); first | done | (rw [show (l4.take ((ji21) : Int).toNat).length = (ji21).toNat from (by rw [List.length_take]; have h_ : ((ji21) : Int) ≤ (l4.length : Int) := of_decide_eq_true (by first | (with_reducible assumption) | assumption); omega)] <;> rfl) | (simp only [hji21]; rfl) | rfl | (simp only [List.length_drop, List.length_take]; rfl)) ?_; (with_reducible refine (ih k (by omega) a0 a1 (wrap64 (a2 - t139)) (wrap64 (a3 - t139)) _ _ (l4.take ((ji21) : Int).toNat) t146 t147 _ ?side1 ?side2 A24.out).mono ?_); (case side1 => repeat (first | exact HR145.out | (with_reducible refine Kd.C_alloc ?_ _) | (with_reducible refine Kd.C_drewN ?_ _) | (with_reducible refine Kd.C_drew ?_))); (case side2 => exact HC145.out); rintro e w30 ⟨rfl, hb⟩; refine ⟨_, rfl, ?_⟩; have n0_ := Aside0.mk (below_step (by repeat (first | (with_reducible first | exact HB.out | apply below_alloc | apply pw_below_drewN | apply below_drew1) | exact HB.out)) hb); clear HB; have HB := n0_; clear n0_; (try clear hb); (try clear hb2); (try clear hk); (try clear hi); have p148 : 0 ≤ ((ji21) : Int) := of_decide_eq_true (by first | (with_reducible assumption) | assumption); have q148 : (ji21) < (l4.length : Int) := of_decide_eq_true (by first | (with_reducible assumption) | assumption); obtain ⟨ad148, e148, hx148_0⟩ := Kd.at_string HR4.out (ji21) p148 q148; cases e148; replace hx148_0 := (HB.out.cell (World.block_lt_of_cell? w _ hx148_0)).trans hx148_0; replace p148 := eq_true p148; replace q148 := eq_true q148) | ((with_reducible refine gate_callee (f := 62) rfl ?_); refine goesL_ (some 78) rfl rfl Try.func62 (by kernel_rfl) rfl #[.int .u8 a0, .string (((⟨#[1]⟩ : ByteArray) ++ (rdOf ByteArray.empty l4 (ji21))) ++ t146)] rfl (by (try simp only [List.map_toArray, List.map_cons, List.map_nil]); first | done | (simp only [hji21]; rfl) | rfl | (simp only [List.length_drop, List.length_take]; rfl)) ?_; (with_reducible refine (annalistref08_Hash.calls k a0 (((⟨#[1]⟩ : ByteArray) ++ (rdOf ByteArray.empty l4 (ji21))) ++ t146) t149 _ A28.out).mono ?_); rintro e w31 ⟨rfl, hb⟩; refine ⟨_, rfl, ?_⟩; have n0_ := Aside0.mk (below_step (by repeat (first | (with_reducible first | exact HB.out | apply below_alloc | apply pw_below_drewN | apply below_drew1) | exact HB.out)) hb); clear HB; have HB := n0_; clear n0_; (try clear hb); (try clear hb2); (try clear hk); (try clear hi)))
                  go_ret2
                  exact ⟨by first | rfl | (simp [errW_none, errW_some] <;> rfl) | (simp only [← hji21]; first | rfl | (simp [errW_none, errW_some] <;> rfl)) | (simp [*, errW_none, errW_some] <;> rfl), by repeat (first | (with_reducible first | exact HB.out | apply below_alloc | apply pw_below_drewN | apply below_drew1) | exact HB.out)⟩
                · rw [if_neg c27] at H
                  exact absurd H (by simp)
              · rw [if_neg c26] at H
                exact absurd H (by simp)
            · rw [if_neg c25] at H
              exact absurd H (by simp)
          · rw [if_neg c23] at H
            exact absurd H (by simp)
        · rw [if_neg c22] at H
          exact absurd H (by simp)

end Go.Proofs.Ytolapikiflodfaa.PCollideLeaves
