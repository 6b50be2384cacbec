import Derived.Test.YtpflopenjbealaaQPropPhasesx0
import Derived.Test.YtpflopenjbealaaQPropPhasesx1
import Derived.Test.YtpflopenjbealaaQPropPhasesx2
namespace Go.Proofs.Ytpflopenjbealaa.PPropPhases
open Go.RowKit Go.Proofs.YtpflopenjbealaaW.PrintWords Go.Proofs.YtpflopenjbealaaW.PrintLast Go.Proofs.YtpflopenjbealaaW.PrintMore
attribute [local go_sem] max2_int min2_int max_two min_two max_three min_three max_four min_four   -- for this text's walks alone
set_option linter.unusedVariables false
set_option linter.unusedSimpArgs false

/-! ### annalistlaw18_PropPhases: function 8 -/
mutual
def annalistlaw18_PropPhases.j0 : Nat → Int → List (S42) → Bool → Option (Bool)
  | 0, _, _, _ => none
  | k + 1, x0, x1, x21 => if x21 = true then ((annalistlaw18_awake.f k).bind fun t166 => (some t166)) else ((prop_New.f x0 5 (⟨#[111, 119, 110]⟩ : ByteArray)).bind fun bt167 => (annalistlaw18_PropPhases.l0 k x0 x1 0 bt167.1 bt167.2.1 bt167.2.2.1 bt167.2.2.2.1 bt167.2.2.2.2.1 bt167.2.2.2.2.2.1 bt167.2.2.2.2.2.2.1 bt167.2.2.2.2.2.2.2))
def annalistlaw18_PropPhases.l0 : Nat → Int → List (S42) → Int → Int → Int → Int → ByteArray → Int → ByteArray → Int → Int → Option (Bool)
  | 0, _, _, _, _, _, _, _, _, _, _, _ => none
  | k + 1, x0, x1, x6, x176000, x176001, x176002, x176003, x176004, x176005, x176006, x176007 => if x6 < (x1.length : Int) then (if 0 ≤ x6 then ((prop_Prop_Phase.f x176000 x176001 x176002 x176003 x176004 x176005 x176006 x176007).bind fun bt178 => ((prop_Prop_Value.f bt178.2.1 bt178.2.2.1 bt178.2.2.2.1 bt178.2.2.2.2.1 bt178.2.2.2.2.2.1 bt178.2.2.2.2.2.2.1 bt178.2.2.2.2.2.2.2.1 bt178.2.2.2.2.2.2.2.2).bind fun bt187 => ((prop_Prop_Voters.f bt187.2.1 bt187.2.2.1 bt187.2.2.2.1 bt187.2.2.2.2.1 bt187.2.2.2.2.2.1 bt187.2.2.2.2.2.2.1 bt187.2.2.2.2.2.2.2.1 bt187.2.2.2.2.2.2.2.2).bind fun bt196 => (if (rd_T42 x1 x6).f0 = true then ((prop_Prop_Accepted.f bt196.2.2.1 bt196.2.2.2.1 bt196.2.2.2.2.1 bt196.2.2.2.2.2.1 bt196.2.2.2.2.2.2.1 bt196.2.2.2.2.2.2.2.1 bt196.2.2.2.2.2.2.2.2.1 bt196.2.2.2.2.2.2.2.2.2 ((rd_T42 x1 x6).f1) ((rd_T42 x1 x6).f2)).bind fun bt206 => (annalistlaw18_PropPhases.j2 k x0 x1 x6 bt178.1 bt187.1 bt196.1 bt196.2.1 bt206.2.1 bt206.2.2.1 bt206.2.2.2.1 bt206.2.2.2.2.1 bt206.2.2.2.2.2.1 bt206.2.2.2.2.2.2.1 bt206.2.2.2.2.2.2.2.1 bt206.2.2.2.2.2.2.2.2 ((rd_T42 x1 x6).f0) ((rd_T42 x1 x6).f1) ((rd_T42 x1 x6).f2) ((rd_T42 x1 x6).f3) ((rd_T42 x1 x6).f4))) else ((prop_Prop_Promised.f k bt196.2.2.1 bt196.2.2.2.1 bt196.2.2.2.2.1 bt196.2.2.2.2.2.1 bt196.2.2.2.2.2.2.1 bt196.2.2.2.2.2.2.2.1 bt196.2.2.2.2.2.2.2.2.1 bt196.2.2.2.2.2.2.2.2.2 ((rd_T42 x1 x6).f1) ((rd_T42 x1 x6).f2) ((rd_T42 x1 x6).f3) ((rd_T42 x1 x6).f4)).bind fun bt215 => (annalistlaw18_PropPhases.j2 k x0 x1 x6 bt178.1 bt187.1 bt196.1 bt196.2.1 bt215.2.1 bt215.2.2.1 bt215.2.2.2.1 bt215.2.2.2.2.1 bt215.2.2.2.2.2.1 bt215.2.2.2.2.2.2.1 bt215.2.2.2.2.2.2.2.1 bt215.2.2.2.2.2.2.2.2 ((rd_T42 x1 x6).f0) ((rd_T42 x1 x6).f1) ((rd_T42 x1 x6).f2) ((rd_T42 x1 x6).f3) ((rd_T42 x1 x6).f4))))))) else (none)) else (some true)
def annalistlaw18_PropPhases.j2 : Nat → Int → List (S42) → Int → Int → ByteArray → Int → Int → Int → Int → Int → ByteArray → Int → ByteArray → Int → Int → Bool → Int → Int → Int → ByteArray → Option (Bool)
  | 0, _, _, _, _, _, _, _, _, _, _, _, _, _, _, _, _, _, _, _, _ => none
  | k + 1, x0, x1, x6, x8, x9, x10, x11, x176000, x176001, x176002, x176003, x176004, x176005, x176006, x176007, x178000, x178001, x178002, x178003, x178004 => (prop_Prop_Voters.f x176000 x176001 x176002 x176003 x176004 x176005 x176006 x176007).bind fun bt224 => (if x178002 = 5 then (if x178001 < 0 then (annalistlaw18_PropPhases.j3 k x0 x1 x6 x8 x9 x10 x11 bt224.1 bt224.2.1 true bt224.2.2.1 bt224.2.2.2.1 bt224.2.2.2.2.1 bt224.2.2.2.2.2.1 bt224.2.2.2.2.2.2.1 bt224.2.2.2.2.2.2.2.1 bt224.2.2.2.2.2.2.2.2.1 bt224.2.2.2.2.2.2.2.2.2) else (annalistlaw18_PropPhases.j3 k x0 x1 x6 x8 x9 x10 x11 bt224.1 bt224.2.1 (decide (x178001 ≥ (mn (mx x0 1) 63))) bt224.2.2.1 bt224.2.2.2.1 bt224.2.2.2.2.1 bt224.2.2.2.2.2.1 bt224.2.2.2.2.2.2.1 bt224.2.2.2.2.2.2.2.1 bt224.2.2.2.2.2.2.2.2.1 bt224.2.2.2.2.2.2.2.2.2)) else (annalistlaw18_PropPhases.j3 k x0 x1 x6 x8 x9 x10 x11 bt224.1 bt224.2.1 true bt224.2.2.1 bt224.2.2.2.1 bt224.2.2.2.2.1 bt224.2.2.2.2.2.1 bt224.2.2.2.2.2.2.1 bt224.2.2.2.2.2.2.2.1 bt224.2.2.2.2.2.2.2.2.1 bt224.2.2.2.2.2.2.2.2.2))
def annalistlaw18_PropPhases.j3 : Nat → Int → List (S42) → Int → Int → ByteArray → Int → Int → Int → Int → Bool → Int → Int → Int → ByteArray → Int → ByteArray → Int → Int → Option (Bool)
  | 0, _, _, _, _, _, _, _, _, _, _, _, _, _, _, _, _, _, _ => none
  | k + 1, x0, x1, x6, x8, x9, x10, x11, x12, x13, x14, x176000, x176001, x176002, x176003, x176004, x176005, x176006, x176007 => (prop_Prop_Phase.f x176000 x176001 x176002 x176003 x176004 x176005 x176006 x176007).bind fun bt234 => (if bt234.1 < x8 then (some false) else (if x14 = true then ((prop_Prop_Phase.f bt234.2.1 bt234.2.2.1 bt234.2.2.2.1 bt234.2.2.2.2.1 bt234.2.2.2.2.2.1 bt234.2.2.2.2.2.2.1 bt234.2.2.2.2.2.2.2.1 bt234.2.2.2.2.2.2.2.2).bind fun bt243 => (if bt243.1 = x8 then ((prop_Prop_Value.f bt243.2.1 bt243.2.2.1 bt243.2.2.2.1 bt243.2.2.2.2.1 bt243.2.2.2.2.2.1 bt243.2.2.2.2.2.2.1 bt243.2.2.2.2.2.2.2.1 bt243.2.2.2.2.2.2.2.2).bind fun bt252 => (if bt252.1.toList = x9.toList then (if x10 = x12 then (if x11 = x13 then (annalistlaw18_PropPhases.l0 k x0 x1 (wrap64 (x6 + 1)) bt252.2.1 bt252.2.2.1 bt252.2.2.2.1 bt252.2.2.2.2.1 bt252.2.2.2.2.2.1 bt252.2.2.2.2.2.2.1 bt252.2.2.2.2.2.2.2.1 bt252.2.2.2.2.2.2.2.2) else (some false)) else (some false)) else (some false))) else (some false))) else (annalistlaw18_PropPhases.l0 k x0 x1 (wrap64 (x6 + 1)) bt234.2.1 bt234.2.2.1 bt234.2.2.2.1 bt234.2.2.2.2.1 bt234.2.2.2.2.2.1 bt234.2.2.2.2.2.2.1 bt234.2.2.2.2.2.2.2.1 bt234.2.2.2.2.2.2.2.2)))
end
def annalistlaw18_PropPhases.f (k : Nat) (a0 : Int) (l1 : List (S42)) : Option (Bool) := (annalistlaw18_awake.f k).bind fun t165 => (if t165 = true then (annalistlaw18_PropPhases.j0 k a0 l1 (decide ((l1.length : Int) > 60))) else (annalistlaw18_PropPhases.j0 k a0 l1 true))
theorem annalistlaw18_PropPhases.mono_l : ∀ k, (∀ y0 y1 y2, LeO (annalistlaw18_PropPhases.j0 k y0 y1 y2) (annalistlaw18_PropPhases.j0 (k + 1) y0 y1 y2)) ∧ (∀ y0 y1 y2 y3 y4 y5 y6 y7 y8 y9 y10, LeO (annalistlaw18_PropPhases.l0 k y0 y1 y2 y3 y4 y5 y6 y7 y8 y9 y10) (annalistlaw18_PropPhases.l0 (k + 1) y0 y1 y2 y3 y4 y5 y6 y7 y8 y9 y10)) ∧ (∀ y0 y1 y2 y3 y4 y5 y6 y7 y8 y9 y10 y11 y12 y13 y14 y15 y16 y17 y18 y19, LeO (annalistlaw18_PropPhases.j2 k y0 y1 y2 y3 y4 y5 y6 y7 y8 y9 y10 y11 y12 y13 y14 y15 y16 y17 y18 y19) (annalistlaw18_PropPhases.j2 (k + 1) y0 y1 y2 y3 y4 y5 y6 y7 y8 y9 y10 y11 y12 y13 y14 y15 y16 y17 y18 y19)) ∧ (∀ y0 y1 y2 y3 y4 y5 y6 y7 y8 y9 y10 y11 y12 y13 y14 y15 y16 y17, LeO (annalistlaw18_PropPhases.j3 k y0 y1 y2 y3 y4 y5 y6 y7 y8 y9 y10 y11 y12 y13 y14 y15 y16 y17) (annalistlaw18_PropPhases.j3 (k + 1) y0 y1 y2 y3 y4 y5 y6 y7 y8 y9 y10 y11 y12 y13 y14 y15 y16 y17))
  | 0 => ⟨fun _ _ _ r h => by simp [annalistlaw18_PropPhases.j0] at h, fun _ _ _ _ _ _ _ _ _ _ _ r h => by simp [annalistlaw18_PropPhases.l0] at h, fun _ _ _ _ _ _ _ _ _ _ _ _ _ _ _ _ _ _ _ _ r h => by simp [annalistlaw18_PropPhases.j2] at h, fun _ _ _ _ _ _ _ _ _ _ _ _ _ _ _ _ _ _ r h => by simp [annalistlaw18_PropPhases.j3] at h⟩
  | k + 1 => by
    obtain ⟨ih0, ih1, ih2, ih3⟩ := annalistlaw18_PropPhases.mono_l k
    refine ⟨?_, ?_, ?_, ?_⟩
    · intro y0 y1 y2
      unfold annalistlaw18_PropPhases.j0
      repeat' first
      | (with_reducible exact ih0 _ _ _)
      | (with_reducible exact ih1 _ _ _ _ _ _ _ _ _ _ _)
      | (with_reducible exact ih2 _ _ _ _ _ _ _ _ _ _ _ _ _ _ _ _ _ _ _ _)
      | (with_reducible exact ih3 _ _ _ _ _ _ _ _ _ _ _ _ _ _ _ _ _ _)
      | (with_reducible exact annalistlaw18_awake.mono _)
      | (with_reducible exact prop_Prop_Promised.mono _ _ _ _ _ _ _ _ _ _ _ _ _)
      | (with_reducible exact LeO.refl _)
      | (with_reducible exact LeO.none _)
      | (with_reducible refine LeO.ite ?_ ?_)
      | (with_reducible refine LeO.bind ?_ (fun _ => ?_))
      | exact ih0 _ _ _
      | exact ih1 _ _ _ _ _ _ _ _ _ _ _
      | exact ih2 _ _ _ _ _ _ _ _ _ _ _ _ _ _ _ _ _ _ _ _
      | exact ih3 _ _ _ _ _ _ _ _ _ _ _ _ _ _ _ _ _ _
      | exact annalistlaw18_awake.mono _
      | exact prop_Prop_Promised.mono _ _ _ _ _ _ _ _ _ _ _ _ _
      | exact LeO.none _
      | refine LeO.ite ?_ ?_
      | refine LeO.bind ?_ (fun _ => ?_)
    · intro y0 y1 y2 y3 y4 y5 y6 y7 y8 y9 y10
      unfold annalistlaw18_PropPhases.l0
      repeat' first
      | (with_reducible exact ih0 _ _ _)
      | (with_reducible exact ih1 _ _ _ _ _ _ _ _ _ _ _)
      | (with_reducible exact ih2 _ _ _ _ _ _ _ _ _ _ _ _ _ _ _ _ _ _ _ _)
      | (with_reducible exact ih3 _ _ _ _ _ _ _ _ _ _ _ _ _ _ _ _ _ _)
      | (with_reducible exact annalistlaw18_awake.mono _)
      | (with_reducible exact prop_Prop_Promised.mono _ _ _ _ _ _ _ _ _ _ _ _ _)
      | (with_reducible exact LeO.refl _)
      | (with_reducible exact LeO.none _)
      | (with_reducible refine LeO.ite ?_ ?_)
      | (with_reducible refine LeO.bind ?_ (fun _ => ?_))
      | exact ih0 _ _ _
      | exact ih1 _ _ _ _ _ _ _ _ _ _ _
      | exact ih2 _ _ _ _ _ _ _ _ _ _ _ _ _ _ _ _ _ _ _ _
      | exact ih3 _ _ _ _ _ _ _ _ _ _ _ _ _ _ _ _ _ _
      | exact annalistlaw18_awake.mono _
      | exact prop_Prop_Promised.mono _ _ _ _ _ _ _ _ _ _ _ _ _
      | exact LeO.none _
      | refine LeO.ite ?_ ?_
      | refine LeO.bind ?_ (fun _ => ?_)
    · intro y0 y1 y2 y3 y4 y5 y6 y7 y8 y9 y10 y11 y12 y13 y14 y15 y16 y17 y18 y19
      unfold annalistlaw18_PropPhases.j2
      repeat' first
      | (with_reducible exact ih0 _ _ _)
      | (with_reducible exact ih1 _ _ _ _ _ _ _ _ _ _ _)
      | (with_reducible exact ih2 _ _ _ _ _ _ _ _ _ _ _ _ _ _ _ _ _ _ _ _)
      | (with_reducible exact ih3 _ _ _ _ _ _ _ _ _ _ _ _ _ _ _ _ _ _)
      | (with_reducible exact annalistlaw18_awake.mono _)
      | (with_reducible exact prop_Prop_Promised.mono _ _ _ _ _ _ _ _ _ _ _ _ _)
      | (with_reducible exact LeO.refl _)
      | (with_reducible exact LeO.none _)
      | (with_reducible refine LeO.ite ?_ ?_)
      | (with_reducible refine LeO.bind ?_ (fun _ => ?_))
      | exact ih0 _ _ _
      | exact ih1 _ _ _ _ _ _ _ _ _ _ _
      | exact ih2 _ _ _ _ _ _ _ _ _ _ _ _ _ _ _ _ _ _ _ _
      | exact ih3 _ _ _ _ _ _ _ _ _ _ _ _ _ _ _ _ _ _
      | exact annalistlaw18_awake.mono _
      | exact prop_Prop_Promised.mono _ _ _ _ _ _ _ _ _ _ _ _ _
      | exact LeO.none _
      | refine LeO.ite ?_ ?_
      | refine LeO.bind ?_ (fun _ => ?_)
    · intro y0 y1 y2 y3 y4 y5 y6 y7 y8 y9 y10 y11 y12 y13 y14 y15 y16 y17
      unfold annalistlaw18_PropPhases.j3
      repeat' first
      | (with_reducible exact ih0 _ _ _)
      | (with_reducible exact ih1 _ _ _ _ _ _ _ _ _ _ _)
      | (with_reducible exact ih2 _ _ _ _ _ _ _ _ _ _ _ _ _ _ _ _ _ _ _ _)
      | (with_reducible exact ih3 _ _ _ _ _ _ _ _ _ _ _ _ _ _ _ _ _ _)
      | (with_reducible exact annalistlaw18_awake.mono _)
      | (with_reducible exact prop_Prop_Promised.mono _ _ _ _ _ _ _ _ _ _ _ _ _)
      | (with_reducible exact LeO.refl _)
      | (with_reducible exact LeO.none _)
      | (with_reducible refine LeO.ite ?_ ?_)
      | (with_reducible refine LeO.bind ?_ (fun _ => ?_))
      | exact ih0 _ _ _
      | exact ih1 _ _ _ _ _ _ _ _ _ _ _
      | exact ih2 _ _ _ _ _ _ _ _ _ _ _ _ _ _ _ _ _ _ _ _
      | exact ih3 _ _ _ _ _ _ _ _ _ _ _ _ _ _ _ _ _ _
      | exact annalistlaw18_awake.mono _
      | exact prop_Prop_Promised.mono _ _ _ _ _ _ _ _ _ _ _ _ _
      | exact LeO.none _
      | refine LeO.ite ?_ ?_
      | refine LeO.bind ?_ (fun _ => ?_)
theorem annalistlaw18_PropPhases.mono : ∀ a0 a1 k, LeO (annalistlaw18_PropPhases.f k a0 a1) (annalistlaw18_PropPhases.f (k + 1) a0 a1) := by
  intro a0 a1 k
  obtain ⟨ih0, ih1, ih2, ih3⟩ := annalistlaw18_PropPhases.mono_l k
  unfold annalistlaw18_PropPhases.f
  repeat' first
      | (with_reducible exact ih0 _ _ _)
      | (with_reducible exact ih1 _ _ _ _ _ _ _ _ _ _ _)
      | (with_reducible exact ih2 _ _ _ _ _ _ _ _ _ _ _ _ _ _ _ _ _ _ _ _)
      | (with_reducible exact ih3 _ _ _ _ _ _ _ _ _ _ _ _ _ _ _ _ _ _)
      | (with_reducible exact annalistlaw18_awake.mono _)
      | (with_reducible exact prop_Prop_Promised.mono _ _ _ _ _ _ _ _ _ _ _ _ _)
      | (with_reducible exact LeO.refl _)
      | (with_reducible exact LeO.none _)
      | (with_reducible refine LeO.ite ?_ ?_)
      | (with_reducible refine LeO.bind ?_ (fun _ => ?_))
      | exact ih0 _ _ _
      | exact ih1 _ _ _ _ _ _ _ _ _ _ _
      | exact ih2 _ _ _ _ _ _ _ _ _ _ _ _ _ _ _ _ _ _ _ _
      | exact ih3 _ _ _ _ _ _ _ _ _ _ _ _ _ _ _ _ _ _
      | exact annalistlaw18_awake.mono _
      | exact prop_Prop_Promised.mono _ _ _ _ _ _ _ _ _ _ _ _ _
      | exact LeO.none _
      | refine LeO.ite ?_ ?_
      | refine LeO.bind ?_ (fun _ => ?_)
set_option maxHeartbeats 8000000 in
set_option maxRecDepth 100000 in
theorem annalistlaw18_PropPhases.calls (k : Nat) (a0 : Int) (A1 : Option Addr) (c1 : Nat) (l1 : List (S42)) (r : Bool) (w : World) (hr1 : Kd.C k42 w A1 l1.length l1) (hc1 : l1.length ≤ c1) (h : annalistlaw18_PropPhases.f k a0 l1 = some r) :
    Calls Try.prog 8 #[.int .i64 a0, .slice A1 l1.length c1] w fun e w' => e = .returned (.bool r) ∧ Below w.heap.size w w' := by
  have hu42 := Try.underlying42
  have HR1 := Aside0.mk hr1
  have HC1 := Aside0.mk hc1
  clear hr1 hc1
  have HB := Aside0.mk (Below.refl w.heap.size w)
  have H : ((annalistlaw18_awake.f k).bind fun t165 => (if t165 = true then (annalistlaw18_PropPhases.j0 k a0 l1 (decide ((l1.length : Int) > 60))) else (annalistlaw18_PropPhases.j0 k a0 l1 true))) = some r := h
  clear h
  have HC3 := Aside0.mk H
  clear H
  go_enter Try.func8, Try.ntmps8
  go_upto_region 1 with (fail)
  go_cut [21] (fun v21 wc => ∃ (kq : Nat) (x21_2 : Bool), v21 = .bool x21_2 ∧ Aside0 (annalistlaw18_PropPhases.j0 kq a0 l1 x21_2 = some r) ∧ Aside0 (kq ≤ k) ∧ Aside0 (Below w.heap.size w wc))
  case first =>
    have H := HC3.out
    clear HC3
    replace H := Option.bind_eq_some_iff.mp H
    obtain ⟨t165, A40, H⟩ := H
    replace H : (if t165 = true then (annalistlaw18_PropPhases.j0 k a0 l1 (decide ((l1.length : Int) > 60))) else (annalistlaw18_PropPhases.j0 k a0 l1 true)) = some r := H
    have A4 := Aside0.mk A40
    clear A40
    by_cases c5 : t165 = true
    · subst c5
      have H1 : (annalistlaw18_PropPhases.j0 k a0 l1 (decide ((l1.length : Int) > 60))) = some r := by rw [if_pos rfl] at H; exact H
      clear H
      have H := H1
      clear H1
      have H' := Aside0.mk H
      clear H
      go_wp2_with (first | ((with_reducible refine gate_callee (f := 20) rfl ?_); refine goesL_ (some 15) rfl rfl Try.func20 (by kernel_rfl) rfl #[] rfl (by (try simp only [List.map_toArray, List.map_cons, List.map_nil]); first | done | rfl | (simp only [List.length_drop, List.length_take]; rfl)) ?_; (with_reducible refine (annalistlaw18_awake.calls k  true _ A4.out).mono ?_); rintro e w6 ⟨rfl, hb⟩; refine ⟨_, rfl, ?_⟩; have n0_ := Aside0.mk (below_step (by repeat (first | (with_reducible first | exact HB.out | apply below_alloc | apply pw_below_drewN | apply below_drew1) | exact HB.out)) hb); clear HB; have HB := n0_; clear n0_; (try clear hb); (try clear hb2); (try clear hk); (try clear hi)))
      go_meet
      case rel => exact ⟨_, (decide ((l1.length : Int) > 60)), (by first | rfl | (simp; done) | (simp [*]; done)), H', ⟨by first | omega | exact Nat.le_refl _⟩, ⟨by repeat (first | (with_reducible first | exact HB.out | apply below_alloc | apply pw_below_drewN | apply below_drew1) | exact HB.out)⟩⟩
    · replace c5 := Bool.eq_false_iff.mpr c5
      subst c5
      have H1 : (annalistlaw18_PropPhases.j0 k a0 l1 true) = some r := by rw [if_neg (show ¬ (false = true) by decide)] at H; exact H
      clear H
      have H := H1
      clear H1
      have H' := Aside0.mk H
      clear H
      go_wp2_with (first | ((with_reducible refine gate_callee (f := 20) rfl ?_); refine goesL_ (some 15) rfl rfl Try.func20 (by kernel_rfl) rfl #[] rfl (by (try simp only [List.map_toArray, List.map_cons, List.map_nil]); first | done | rfl | (simp only [List.length_drop, List.length_take]; rfl)) ?_; (with_reducible refine (annalistlaw18_awake.calls k  false _ A4.out).mono ?_); rintro e w7 ⟨rfl, hb⟩; refine ⟨_, rfl, ?_⟩; have n0_ := Aside0.mk (below_step (by repeat (first | (with_reducible first | exact HB.out | apply below_alloc | apply pw_below_drewN | apply below_drew1) | exact HB.out)) hb); clear HB; have HB := n0_; clear n0_; (try clear hb); (try clear hb2); (try clear hk); (try clear hi)))
      go_meet
      case rel => exact ⟨_, (true), (by first | rfl | (simp; done) | (simp [*]; done)), H', ⟨by first | omega | exact Nat.le_refl _⟩, ⟨by repeat (first | (with_reducible first | exact HB.out | apply below_alloc | apply pw_below_drewN | apply below_drew1) | exact HB.out)⟩⟩
  case rest =>
    clear HC3
    try clear c1
    try clear c2
    try clear p2
    try clear c5
    obtain ⟨kq, x21_2, rfl, HA, HJ2, HB⟩ := hcut
    cases kq with
    | zero => exact absurd HA.out (by simp [annalistlaw18_PropPhases.j0])
    | succ kj2 =>
      have H := HA.out
      clear HA
      simp only [annalistlaw18_PropPhases.j0] at H
      by_cases c8 : x21_2 = true
      · subst c8
        have H1 : ((annalistlaw18_awake.f kj2).bind fun t166 => (some t166)) = some r := by rw [if_pos rfl] at H; exact H
        clear H
        have H := H1
        clear H1
        replace H := Option.bind_eq_some_iff.mp H
        obtain ⟨t166, A90, H⟩ := H
        replace H : (some t166) = some r := H
        have A9 := Aside0.mk A90
        clear A90
        obtain rfl := Option.some.inj H
        go_wp2_with (first | ((with_reducible refine gate_callee (f := 20) rfl ?_); refine goesL_ (some 22) rfl rfl Try.func20 (by kernel_rfl) rfl #[] rfl (by (try simp only [List.map_toArray, List.map_cons, List.map_nil]); first | done | rfl | (simp only [List.length_drop, List.length_take]; rfl)) ?_; (with_reducible refine (annalistlaw18_awake.calls kj2  t166 _ A9.out).mono ?_); rintro e w10 ⟨rfl, hb⟩; refine ⟨_, rfl, ?_⟩; have n0_ := Aside0.mk (below_step (by repeat (first | (with_reducible first | exact HB.out | apply below_alloc | apply pw_below_drewN | apply below_drew1) | exact HB.out)) hb); clear HB; have HB := n0_; clear n0_; (try clear hb); (try clear hb2); (try clear hk); (try clear hi)))
        go_ret
        exact ⟨by first | rfl | (simp [errW_none, errW_some] <;> rfl) | (simp [*, errW_none, errW_some] <;> rfl), by repeat (first | (with_reducible first | exact HB.out | apply below_alloc | apply pw_below_drewN | apply below_drew1) | exact HB.out)⟩
      · replace c8 := Bool.eq_false_iff.mpr c8
        subst c8
        have H1 : ((prop_New.f a0 5 (⟨#[111, 119, 110]⟩ : ByteArray)).bind fun bt167 => (annalistlaw18_PropPhases.l0 kj2 a0 l1 0 bt167.1 bt167.2.1 bt167.2.2.1 bt167.2.2.2.1 bt167.2.2.2.2.1 bt167.2.2.2.2.2.1 bt167.2.2.2.2.2.2.1 bt167.2.2.2.2.2.2.2)) = some r := by rw [if_neg (show ¬ (false = true) by decide)] at H; exact H
        clear H
        have H := H1
        clear H1
        replace H := Option.bind_eq_some_iff.mp H
        obtain ⟨⟨t167, t168, t169, t170, t171, t172, t173, t174⟩, A110, H⟩ := H
        replace H : (annalistlaw18_PropPhases.l0 kj2 a0 l1 0 t167 t168 t169 t170 t171 t172 t173 t174) = some r := H
        have A11 := Aside0.mk A110
        clear A110
        have H' := Aside0.mk H
        clear H
        go_wp2_with (first | ((with_reducible refine gate_callee (f := 21) rfl ?_); refine goesL_ (some 24) rfl rfl Try.func21 (by kernel_rfl) rfl #[.int .i64 a0, .int .i64 5, .string (⟨#[111, 119, 110]⟩ : ByteArray)] rfl (by (try simp only [List.map_toArray, List.map_cons, List.map_nil]); first | done | rfl | (simp only [List.length_drop, List.length_take]; rfl)) ?_; (with_reducible refine (prop_New.calls a0 5 (⟨#[111, 119, 110]⟩ : ByteArray) t167 t168 t169 t170 t171 t172 t173 t174 w _ ?side1 A11.out).mono ?_); (case side1 => repeat (first | (with_reducible first | exact HB.out | apply below_alloc | apply pw_below_drewN | apply below_drew1) | exact HB.out)); rintro e w12 ⟨g175, rfl, hi, hb, hb2⟩; refine ⟨_, rfl, ?_⟩; have n0_ := Aside0.mk (hb); have n1_ := Aside0.mk (hi); clear HB; have HB := n0_; have HI175 := n1_; clear n0_ n1_; (try clear hb); (try clear hb2); (try clear hk); (try clear hi)))
        go_loopg [6] kj2 (fun kq v6 w' => ∃ (x6_2 : Int) (x176000_2 : Int) (x176001_2 : Int) (x176002_2 : Int) (x176003_2 : ByteArray) (x176004_2 : Int) (x176005_2 : ByteArray) (x176006_2 : Int) (x176007_2 : Int), v6 = .int .i64 x6_2 ∧ Aside0 (annalistlaw18_PropPhases.l0 kq a0 l1 x6_2 x176000_2 x176001_2 x176002_2 x176003_2 x176004_2 x176005_2 x176006_2 x176007_2 = some r) ∧ Aside0 (kq ≤ kj2) ∧ Aside0 (IsS57 w w' g175 x176000_2 x176001_2 x176002_2 x176003_2 x176004_2 x176005_2 x176006_2 x176007_2) ∧ Aside0 (Below w.heap.size w w'))
        case atStart => exact ⟨(0), (t167), (t168), (t169), (t170), (t171), (t172), (t173), (t174), (by first | rfl | (simp; done) | (simp [*]; done)), H', ⟨Nat.le_refl _⟩, ⟨by repeat (first | (with_reducible first | exact HI175.out | apply IsS57.alloc | apply IsS57.drewN | apply IsS57.drew | apply IsS57.set_0 | apply IsS57.set_1 | apply IsS57.set_2 | apply IsS57.set_3 | apply IsS57.set_4 | apply IsS57.set_5 | apply IsS57.set_6 | apply IsS57.set_7) | exact HI175.out)⟩, ⟨by repeat (first | (with_reducible first | exact HB.out | apply below_alloc | apply pw_below_drewN | apply below_drew1 | refine below_set ?_ (IsS57.ge HI175.out)) | exact HB.out)⟩⟩
        case round =>
          clear H'
          try clear c1
          try clear c2
          try clear p2
          try clear c5
          try clear c8
          try clear p2
          obtain ⟨x6_2, x176000_2, x176001_2, x176002_2, x176003_2, x176004_2, x176005_2, x176006_2, x176007_2, rfl, HA, HK2, HI175, HB⟩ := hrel
          cases gk with
          | zero => exact absurd HA.out (by simp [annalistlaw18_PropPhases.l0])
          | succ k2 =>
            have H := HA.out
            clear HA
            simp only [annalistlaw18_PropPhases.l0] at H
            by_cases c13 : x6_2 < (l1.length : Int)
            · rw [if_pos c13] at H
              have c13b0 : decide (x6_2 < (l1.length : Int)) = true := decide_eq_true c13
              clear c13
              by_cases c14 : 0 ≤ x6_2
              · rw [if_pos c14] at H
                have c14b0 : decide (0 ≤ x6_2) = true := decide_eq_true c14
                clear c14
                replace H := Option.bind_eq_some_iff.mp H
                obtain ⟨⟨t178, t179, t180, t181, t182, t183, t184, t185, t186⟩, A150, H⟩ := H
                replace H : ((prop_Prop_Value.f t179 t180 t181 t182 t183 t184 t185 t186).bind fun bt187 => ((prop_Prop_Voters.f bt187.2.1 bt187.2.2.1 bt187.2.2.2.1 bt187.2.2.2.2.1 bt187.2.2.2.2.2.1 bt187.2.2.2.2.2.2.1 bt187.2.2.2.2.2.2.2.1 bt187.2.2.2.2.2.2.2.2).bind fun bt196 => (if (rd_T42 l1 x6_2).f0 = true then ((prop_Prop_Accepted.f bt196.2.2.1 bt196.2.2.2.1 bt196.2.2.2.2.1 bt196.2.2.2.2.2.1 bt196.2.2.2.2.2.2.1 bt196.2.2.2.2.2.2.2.1 bt196.2.2.2.2.2.2.2.2.1 bt196.2.2.2.2.2.2.2.2.2 ((rd_T42 l1 x6_2).f1) ((rd_T42 l1 x6_2).f2)).bind fun bt206 => (annalistlaw18_PropPhases.j2 k2 a0 l1 x6_2 t178 bt187.1 bt196.1 bt196.2.1 bt206.2.1 bt206.2.2.1 bt206.2.2.2.1 bt206.2.2.2.2.1 bt206.2.2.2.2.2.1 bt206.2.2.2.2.2.2.1 bt206.2.2.2.2.2.2.2.1 bt206.2.2.2.2.2.2.2.2 ((rd_T42 l1 x6_2).f0) ((rd_T42 l1 x6_2).f1) ((rd_T42 l1 x6_2).f2) ((rd_T42 l1 x6_2).f3) ((rd_T42 l1 x6_2).f4))) else ((prop_Prop_Promised.f k2 bt196.2.2.1 bt196.2.2.2.1 bt196.2.2.2.2.1 bt196.2.2.2.2.2.1 bt196.2.2.2.2.2.2.1 bt196.2.2.2.2.2.2.2.1 bt196.2.2.2.2.2.2.2.2.1 bt196.2.2.2.2.2.2.2.2.2 ((rd_T42 l1 x6_2).f1) ((rd_T42 l1 x6_2).f2) ((rd_T42 l1 x6_2).f3) ((rd_T42 l1 x6_2).f4)).bind fun bt215 => (annalistlaw18_PropPhases.j2 k2 a0 l1 x6_2 t178 bt187.1 bt196.1 bt196.2.1 bt215.2.1 bt215.2.2.1 bt215.2.2.2.1 bt215.2.2.2.2.1 bt215.2.2.2.2.2.1 bt215.2.2.2.2.2.2.1 bt215.2.2.2.2.2.2.2.1 bt215.2.2.2.2.2.2.2.2 ((rd_T42 l1 x6_2).f0) ((rd_T42 l1 x6_2).f1) ((rd_T42 l1 x6_2).f2) ((rd_T42 l1 x6_2).f3) ((rd_T42 l1 x6_2).f4)))))) = some r := H
                have A15 := Aside0.mk A150
                clear A150
                replace H := Option.bind_eq_some_iff.mp H
                obtain ⟨⟨t187, t188, t189, t190, t191, t192, t193, t194, t195⟩, A160, H⟩ := H
                replace H : ((prop_Prop_Voters.f t188 t189 t190 t191 t192 t193 t194 t195).bind fun bt196 => (if (rd_T42 l1 x6_2).f0 = true then ((prop_Prop_Accepted.f bt196.2.2.1 bt196.2.2.2.1 bt196.2.2.2.2.1 bt196.2.2.2.2.2.1 bt196.2.2.2.2.2.2.1 bt196.2.2.2.2.2.2.2.1 bt196.2.2.2.2.2.2.2.2.1 bt196.2.2.2.2.2.2.2.2.2 ((rd_T42 l1 x6_2).f1) ((rd_T42 l1 x6_2).f2)).bind fun bt206 => (annalistlaw18_PropPhases.j2 k2 a0 l1 x6_2 t178 t187 bt196.1 bt196.2.1 bt206.2.1 bt206.2.2.1 bt206.2.2.2.1 bt206.2.2.2.2.1 bt206.2.2.2.2.2.1 bt206.2.2.2.2.2.2.1 bt206.2.2.2.2.2.2.2.1 bt206.2.2.2.2.2.2.2.2 ((rd_T42 l1 x6_2).f0) ((rd_T42 l1 x6_2).f1) ((rd_T42 l1 x6_2).f2) ((rd_T42 l1 x6_2).f3) ((rd_T42 l1 x6_2).f4))) else ((prop_Prop_Promised.f k2 bt196.2.2.1 bt196.2.2.2.1 bt196.2.2.2.2.1 bt196.2.2.2.2.2.1 bt196.2.2.2.2.2.2.1 bt196.2.2.2.2.2.2.2.1 bt196.2.2.2.2.2.2.2.2.1 bt196.2.2.2.2.2.2.2.2.2 ((rd_T42 l1 x6_2).f1) ((rd_T42 l1 x6_2).f2) ((rd_T42 l1 x6_2).f3) ((rd_T42 l1 x6_2).f4)).bind fun bt215 => (annalistlaw18_PropPhases.j2 k2 a0 l1 x6_2 t178 t187 bt196.1 bt196.2.1 bt215.2.1 bt215.2.2.1 bt215.2.2.2.1 bt215.2.2.2.2.1 bt215.2.2.2.2.2.1 bt215.2.2.2.2.2.2.1 bt215.2.2.2.2.2.2.2.1 bt215.2.2.2.2.2.2.2.2 ((rd_T42 l1 x6_2).f0) ((rd_T42 l1 x6_2).f1) ((rd_T42 l1 x6_2).f2) ((rd_T42 l1 x6_2).f3) ((rd_T42 l1 x6_2).f4))))) = some r := H
                have A16 := Aside0.mk A160
                clear A160
                replace H := Option.bind_eq_some_iff.mp H
                obtain ⟨⟨t196, t197, t198, t199, t200, t201, t202, t203, t204, t205⟩, A170, H⟩ := H
                replace H : (if (rd_T42 l1 x6_2).f0 = true then ((prop_Prop_Accepted.f t198 t199 t200 t201 t202 t203 t204 t205 ((rd_T42 l1 x6_2).f1) ((rd_T42 l1 x6_2).f2)).bind fun bt206 => (annalistlaw18_PropPhases.j2 k2 a0 l1 x6_2 t178 t187 t196 t197 bt206.2.1 bt206.2.2.1 bt206.2.2.2.1 bt206.2.2.2.2.1 bt206.2.2.2.2.2.1 bt206.2.2.2.2.2.2.1 bt206.2.2.2.2.2.2.2.1 bt206.2.2.2.2.2.2.2.2 ((rd_T42 l1 x6_2).f0) ((rd_T42 l1 x6_2).f1) ((rd_T42 l1 x6_2).f2) ((rd_T42 l1 x6_2).f3) ((rd_T42 l1 x6_2).f4))) else ((prop_Prop_Promised.f k2 t198 t199 t200 t201 t202 t203 t204 t205 ((rd_T42 l1 x6_2).f1) ((rd_T42 l1 x6_2).f2) ((rd_T42 l1 x6_2).f3) ((rd_T42 l1 x6_2).f4)).bind fun bt215 => (annalistlaw18_PropPhases.j2 k2 a0 l1 x6_2 t178 t187 t196 t197 bt215.2.1 bt215.2.2.1 bt215.2.2.2.1 bt215.2.2.2.2.1 bt215.2.2.2.2.2.1 bt215.2.2.2.2.2.2.1 bt215.2.2.2.2.2.2.2.1 bt215.2.2.2.2.2.2.2.2 ((rd_T42 l1 x6_2).f0) ((rd_T42 l1 x6_2).f1) ((rd_T42 l1 x6_2).f2) ((rd_T42 l1 x6_2).f3) ((rd_T42 l1 x6_2).f4)))) = some r := H
                have A17 := Aside0.mk A170
                clear A170
                have HC18 := Aside0.mk H
                clear H
                have p176 : 0 ≤ (x6_2 : Int) := of_decide_eq_true (by first | (with_reducible assumption) | assumption)
                have q176 : x6_2 < (l1.length : Int) := of_decide_eq_true (by first | (with_reducible assumption) | assumption)
                obtain ⟨ad176, e176, hx176_0, hx176_1, hx176_2, hx176_3, hx176_4⟩ := at_T42 HR1.out x6_2 p176 q176
                cases e176
                replace hx176_0 := (HB.out.cell (World.block_lt_of_cell? w _ hx176_0)).trans hx176_0
                replace hx176_1 := (HB.out.cell (World.block_lt_of_cell? w _ hx176_1)).trans hx176_1
                replace hx176_2 := (HB.out.cell (World.block_lt_of_cell? w _ hx176_2)).trans hx176_2
                replace hx176_3 := (HB.out.cell (World.block_lt_of_cell? w _ hx176_3)).trans hx176_3
                replace hx176_4 := (HB.out.cell (World.block_lt_of_cell? w _ hx176_4)).trans hx176_4
                replace p176 := eq_true p176
                replace q176 := eq_true q176
                go_upto_if 45 with (first | ((with_reducible refine gate_dst (N := 7) rfl ?_); (try (refine gate_guard (by rfl) ?_; dsimp only)); refine box_event ?hg (N := 7) ?hd (cs := #[.bool false, .int .i64 0, .int .i64 0, .int .i64 0, .string (⟨#[]⟩ : ByteArray)]) (t := 42) ?hr ?_; (case hd => rfl); (case hg => rfl); (case hr => first | (go_simp; done) | (go_simp; rfl)); intro gb177 hg w19 hbox hb; have n0_ := Aside0.mk (IsS57.below (by repeat (first | (with_reducible first | exact HI175.out | apply IsS57.alloc | apply IsS57.drewN | apply IsS57.drew | apply IsS57.set_0 | apply IsS57.set_1 | apply IsS57.set_2 | apply IsS57.set_3 | apply IsS57.set_4 | apply IsS57.set_5 | apply IsS57.set_6 | apply IsS57.set_7) | exact HI175.out)) hb); have n1_ := Aside0.mk (below_step (by repeat (first | (with_reducible first | exact HB.out | apply below_alloc | apply pw_below_drewN | apply below_drew1 | refine below_set ?_ (IsS57.ge HI175.out)) | exact HB.out)) hb); have n2_ := Aside0.mk (hbox); have n3_ := Aside0.mk ((by rw [hg]; exact (below_size (by repeat (first | (with_reducible first | exact HB.out | apply below_alloc | apply pw_below_drewN | apply below_drew1 | refine below_set ?_ (IsS57.ge HI175.out)) | exact HB.out))) : w.heap.size ≤ gb177)); have n4_ := Aside0.mk ((by rw [hg]; exact (below_size (by repeat (first | (with_reducible first | exact HB.out | apply below_alloc | apply pw_below_drewN | apply below_drew1 | refine below_set ?_ (IsS57.ge HI175.out)) | exact HB.out))) : w.heap.size ≤ gb177)); have n5_ := Aside0.mk ((by rw [hg]; exact Nat.ne_of_lt (IsS57.lt (show IsS57 w _ g175 x176000_2 x176001_2 x176002_2 x176003_2 x176004_2 x176005_2 x176006_2 x176007_2 from by repeat (first | (with_reducible first | exact HI175.out | apply IsS57.alloc | apply IsS57.drewN | apply IsS57.drew | apply IsS57.set_0 | apply IsS57.set_1 | apply IsS57.set_2 | apply IsS57.set_3 | apply IsS57.set_4 | apply IsS57.set_5 | apply IsS57.set_6 | apply IsS57.set_7) | exact HI175.out))) : g175 ≠ gb177)); have n6_ := Aside0.mk ((by rw [hg]; exact Nat.ne_of_gt (IsS57.lt (show IsS57 w _ g175 x176000_2 x176001_2 x176002_2 x176003_2 x176004_2 x176005_2 x176006_2 x176007_2 from by repeat (first | (with_reducible first | exact HI175.out | apply IsS57.alloc | apply IsS57.drewN | apply IsS57.drew | apply IsS57.set_0 | apply IsS57.set_1 | apply IsS57.set_2 | apply IsS57.set_3 | apply IsS57.set_4 | apply IsS57.set_5 | apply IsS57.set_6 | apply IsS57.set_7) | exact HI175.out))) : gb177 ≠ g175)); clear HI175; clear HB; have HI175 := n0_; have HB := n1_; have BK177 := n2_; have GW177 := n3_; have GE177 := n4_; have NB175_177 := n5_; have NB177_175 := n6_; clear n0_ n1_ n2_ n3_ n4_ n5_ n6_; clear hb hbox hg; have hnb20 := NB177_175.out; have hnc20 := NB175_177.out; have hcz21_0 : w19.cell? ⟨gb177, 0, none⟩ = some (.bool false) := (blk_cell BK177.out 0).trans rfl; have hcz21_1 : w19.cell? ⟨gb177, 1, none⟩ = some (.int .i64 0) := (blk_cell BK177.out 1).trans rfl; have hcz21_2 : w19.cell? ⟨gb177, 2, none⟩ = some (.int .i64 0) := (blk_cell BK177.out 2).trans rfl; have hcz21_3 : w19.cell? ⟨gb177, 3, none⟩ = some (.int .i64 0) := (blk_cell BK177.out 3).trans rfl; have hcz21_4 : w19.cell? ⟨gb177, 4, none⟩ = some (.string (⟨#[]⟩ : ByteArray)) := (blk_cell BK177.out 4).trans rfl; have hfz21_0 := blk_frozen BK177.out 0; have hfz21_1 := blk_frozen BK177.out 1; have hfz21_2 := blk_frozen BK177.out 2; have hfz21_3 := blk_frozen BK177.out 3; have hfz21_4 := blk_frozen BK177.out 4) | ((with_reducible refine gate_callee (f := 24) rfl ?_); refine goesL_ (some 36) rfl rfl Try.func24 (by kernel_rfl) rfl #[.pointer (some ⟨g175, 0, none⟩)] rfl (by (try simp only [List.map_toArray, List.map_cons, List.map_nil]); first | done | rfl | (simp only [List.length_drop, List.length_take]; rfl)) ?_; (with_reducible refine (prop_Prop_Phase.calls g175 x176000_2 x176001_2 x176002_2 x176003_2 x176004_2 x176005_2 x176006_2 x176007_2 t178 t179 t180 t181 t182 t183 t184 t185 t186 w _ ?side1 ?side2 A15.out).mono ?_); (case side1 => repeat (first | (with_reducible first | exact HI175.out | apply IsS57.alloc | apply IsS57.drewN | apply IsS57.drew | apply IsS57.set_0 | apply IsS57.set_1 | apply IsS57.set_2 | apply IsS57.set_3 | apply IsS57.set_4 | apply IsS57.set_5 | apply IsS57.set_6 | apply IsS57.set_7 | refine IsS57.far ?_ NB175_177.out _) | exact HI175.out)); (case side2 => repeat (first | (with_reducible first | exact HB.out | apply below_alloc | apply pw_below_drewN | apply below_drew1 | refine below_set ?_ (IsS57.ge HI175.out) | refine below_set ?_ GE177.out) | exact HB.out)); rintro e w22 ⟨rfl, hi, hb, hk⟩; refine ⟨_, rfl, ?_⟩; have n0_ := Aside0.mk (KeepBut.blk hk (g' := gb177) (o := .cells #[.bool ((rd_T42 l1 x6_2).f0), .int .i64 ((rd_T42 l1 x6_2).f1), .int .i64 ((rd_T42 l1 x6_2).f2), .int .i64 ((rd_T42 l1 x6_2).f3), .string ((rd_T42 l1 x6_2).f4)] 42 (0, 0)) (by (with_reducible repeat (first | refine blk_drewN ?_ _ | refine blk_drew ?_ | refine blk_alloc ?_ _)); refine blk_put (cs := #[.bool ((rd_T42 l1 x6_2).f0), .int .i64 ((rd_T42 l1 x6_2).f1), .int .i64 ((rd_T42 l1 x6_2).f2), .int .i64 ((rd_T42 l1 x6_2).f3), .string (⟨#[]⟩ : ByteArray)]) ?_ 4 _ rfl; (with_reducible repeat (first | refine blk_drewN ?_ _ | refine blk_drew ?_ | refine blk_alloc ?_ _)); refine blk_put (cs := #[.bool ((rd_T42 l1 x6_2).f0), .int .i64 ((rd_T42 l1 x6_2).f1), .int .i64 ((rd_T42 l1 x6_2).f2), .int .i64 0, .string (⟨#[]⟩ : ByteArray)]) ?_ 3 _ rfl; (with_reducible repeat (first | refine blk_drewN ?_ _ | refine blk_drew ?_ | refine blk_alloc ?_ _)); refine blk_put (cs := #[.bool ((rd_T42 l1 x6_2).f0), .int .i64 ((rd_T42 l1 x6_2).f1), .int .i64 0, .int .i64 0, .string (⟨#[]⟩ : ByteArray)]) ?_ 2 _ rfl; (with_reducible repeat (first | refine blk_drewN ?_ _ | refine blk_drew ?_ | refine blk_alloc ?_ _)); refine blk_put (cs := #[.bool ((rd_T42 l1 x6_2).f0), .int .i64 0, .int .i64 0, .int .i64 0, .string (⟨#[]⟩ : ByteArray)]) ?_ 1 _ rfl; (with_reducible repeat (first | refine blk_drewN ?_ _ | refine blk_drew ?_ | refine blk_alloc ?_ _)); refine blk_put (cs := #[.bool false, .int .i64 0, .int .i64 0, .int .i64 0, .string (⟨#[]⟩ : ByteArray)]) ?_ 0 _ rfl; (with_reducible repeat (first | refine blk_drewN ?_ _ | refine blk_drew ?_ | refine blk_alloc ?_ _)); exact BK177.out) NB177_175.out (by simp)); have n1_ := Aside0.mk (hb); have n2_ := Aside0.mk (hi); clear BK177; clear HB; clear HI175; have BK177 := n0_; have HB := n1_; have HI175 := n2_; clear n0_ n1_ n2_; (try clear hb); (try clear hb2); (try clear hk); (try clear hi)) | ((with_reducible refine gate_callee (f := 23) rfl ?_); refine goesL_ (some 38) rfl rfl Try.func23 (by kernel_rfl) rfl #[.pointer (some ⟨g175, 0, none⟩)] rfl (by (try simp only [List.map_toArray, List.map_cons, List.map_nil]); first | done | rfl | (simp only [List.length_drop, List.length_take]; rfl)) ?_; (with_reducible refine (prop_Prop_Value.calls g175 t179 t180 t181 t182 t183 t184 t185 t186 t187 t188 t189 t190 t191 t192 t193 t194 t195 w _ ?side1 ?side2 A16.out).mono ?_); (case side1 => repeat (first | (with_reducible first | exact HI175.out | apply IsS57.alloc | apply IsS57.drewN | apply IsS57.drew | apply IsS57.set_0 | apply IsS57.set_1 | apply IsS57.set_2 | apply IsS57.set_3 | apply IsS57.set_4 | apply IsS57.set_5 | apply IsS57.set_6 | apply IsS57.set_7 | refine IsS57.far ?_ NB175_177.out _) | exact HI175.out)); (case side2 => repeat (first | (with_reducible first | exact HB.out | apply below_alloc | apply pw_below_drewN | apply below_drew1 | refine below_set ?_ (IsS57.ge HI175.out) | refine below_set ?_ GE177.out) | exact HB.out)); rintro e w23 ⟨rfl, hi, hb, hk⟩; refine ⟨_, rfl, ?_⟩; have n0_ := Aside0.mk (KeepBut.blk hk (g' := gb177) (o := .cells #[.bool ((rd_T42 l1 x6_2).f0), .int .i64 ((rd_T42 l1 x6_2).f1), .int .i64 ((rd_T42 l1 x6_2).f2), .int .i64 ((rd_T42 l1 x6_2).f3), .string ((rd_T42 l1 x6_2).f4)] 42 (0, 0)) (by (with_reducible repeat (first | refine blk_drewN ?_ _ | refine blk_drew ?_ | refine blk_alloc ?_ _)); exact BK177.out) NB177_175.out (by simp)); have n1_ := Aside0.mk (hb); have n2_ := Aside0.mk (hi); clear BK177; clear HB; clear HI175; have BK177 := n0_; have HB := n1_; have HI175 := n2_; clear n0_ n1_ n2_; (try clear hb); (try clear hb2); (try clear hk); (try clear hi)) | ((with_reducible refine gate_callee (f := 26) rfl ?_); refine goesL_ (some 41) rfl rfl Try.func26 (by kernel_rfl) rfl #[.pointer (some ⟨g175, 0, none⟩)] rfl (by (try simp only [List.map_toArray, List.map_cons, List.map_nil]); first | done | rfl | (simp only [List.length_drop, List.length_take]; rfl)) ?_; (with_reducible refine (prop_Prop_Voters.calls g175 t188 t189 t190 t191 t192 t193 t194 t195 t196 t197 t198 t199 t200 t201 t202 t203 t204 t205 w _ ?side1 ?side2 A17.out).mono ?_); (case side1 => repeat (first | (with_reducible first | exact HI175.out | apply IsS57.alloc | apply IsS57.drewN | apply IsS57.drew | apply IsS57.set_0 | apply IsS57.set_1 | apply IsS57.set_2 | apply IsS57.set_3 | apply IsS57.set_4 | apply IsS57.set_5 | apply IsS57.set_6 | apply IsS57.set_7 | refine IsS57.far ?_ NB175_177.out _) | exact HI175.out)); (case side2 => repeat (first | (with_reducible first | exact HB.out | apply below_alloc | apply pw_below_drewN | apply below_drew1 | refine below_set ?_ (IsS57.ge HI175.out) | refine below_set ?_ GE177.out) | exact HB.out)); rintro e w24 ⟨rfl, hi, hb, hk⟩; refine ⟨_, rfl, ?_⟩; have n0_ := Aside0.mk (KeepBut.blk hk (g' := gb177) (o := .cells #[.bool ((rd_T42 l1 x6_2).f0), .int .i64 ((rd_T42 l1 x6_2).f1), .int .i64 ((rd_T42 l1 x6_2).f2), .int .i64 ((rd_T42 l1 x6_2).f3), .string ((rd_T42 l1 x6_2).f4)] 42 (0, 0)) (by (with_reducible repeat (first | refine blk_drewN ?_ _ | refine blk_drew ?_ | refine blk_alloc ?_ _)); exact BK177.out) NB177_175.out (by simp)); have n1_ := Aside0.mk (hb); have n2_ := Aside0.mk (hi); clear BK177; clear HB; clear HI175; have BK177 := n0_; have HB := n1_; have HI175 := n2_; clear n0_ n1_ n2_; (try clear hb); (try clear hb2); (try clear hk); (try clear hi); have hcz25_0 : w24.cell? ⟨gb177, 0, none⟩ = some (.bool ((rd_T42 l1 x6_2).f0)) := (blk_cell BK177.out 0).trans rfl; have hcz25_1 : w24.cell? ⟨gb177, 1, none⟩ = some (.int .i64 ((rd_T42 l1 x6_2).f1)) := (blk_cell BK177.out 1).trans rfl; have hcz25_2 : w24.cell? ⟨gb177, 2, none⟩ = some (.int .i64 ((rd_T42 l1 x6_2).f2)) := (blk_cell BK177.out 2).trans rfl; have hcz25_3 : w24.cell? ⟨gb177, 3, none⟩ = some (.int .i64 ((rd_T42 l1 x6_2).f3)) := (blk_cell BK177.out 3).trans rfl; have hcz25_4 : w24.cell? ⟨gb177, 4, none⟩ = some (.string ((rd_T42 l1 x6_2).f4)) := (blk_cell BK177.out 4).trans rfl; have hfz25_0 := blk_frozen BK177.out 0; have hfz25_1 := blk_frozen BK177.out 1; have hfz25_2 := blk_frozen BK177.out 2; have hfz25_3 := blk_frozen BK177.out 3; have hfz25_4 := blk_frozen BK177.out 4))
                (try simp only [Act.put, List.setIfInBounds_toArray, List.set_cons_zero, List.set_cons_succ])
                go_cut [] (fun wc => ∃ (kq : Nat) (x176000_17 : Int) (x176001_17 : Int) (x176002_17 : Int) (x176003_17 : ByteArray) (x176004_17 : Int) (x176005_17 : ByteArray) (x176006_17 : Int) (x176007_17 : Int), Aside0 (annalistlaw18_PropPhases.j2 kq a0 l1 x6_2 t178 t187 t196 t197 x176000_17 x176001_17 x176002_17 x176003_17 x176004_17 x176005_17 x176006_17 x176007_17 ((rd_T42 l1 x6_2).f0) ((rd_T42 l1 x6_2).f1) ((rd_T42 l1 x6_2).f2) ((rd_T42 l1 x6_2).f3) ((rd_T42 l1 x6_2).f4) = some r) ∧ Aside0 (kq ≤ k2) ∧ Aside0 (wc.heap[gb177]? = some (.cells #[.bool ((rd_T42 l1 x6_2).f0), .int .i64 ((rd_T42 l1 x6_2).f1), .int .i64 ((rd_T42 l1 x6_2).f2), .int .i64 ((rd_T42 l1 x6_2).f3), .string ((rd_T42 l1 x6_2).f4)] 42 (0, 0))) ∧ Aside0 (IsS57 w wc g175 x176000_17 x176001_17 x176002_17 x176003_17 x176004_17 x176005_17 x176006_17 x176007_17) ∧ Aside0 (Below w.heap.size w wc))
                case first =>
                  have H := HC18.out
                  clear HC18
                  obtain ⟨bq26, hbq26⟩ : ∃ b_ : Bool, b_ = ((rd_T42 l1 x6_2).f0) := ⟨_, rfl⟩
                  replace H : (if bq26 = true then ((prop_Prop_Accepted.f t198 t199 t200 t201 t202 t203 t204 t205 ((rd_T42 l1 x6_2).f1) ((rd_T42 l1 x6_2).f2)).bind fun bt206 => (annalistlaw18_PropPhases.j2 k2 a0 l1 x6_2 t178 t187 t196 t197 bt206.2.1 bt206.2.2.1 bt206.2.2.2.1 bt206.2.2.2.2.1 bt206.2.2.2.2.2.1 bt206.2.2.2.2.2.2.1 bt206.2.2.2.2.2.2.2.1 bt206.2.2.2.2.2.2.2.2 bq26 ((rd_T42 l1 x6_2).f1) ((rd_T42 l1 x6_2).f2) ((rd_T42 l1 x6_2).f3) ((rd_T42 l1 x6_2).f4))) else ((prop_Prop_Promised.f k2 t198 t199 t200 t201 t202 t203 t204 t205 ((rd_T42 l1 x6_2).f1) ((rd_T42 l1 x6_2).f2) ((rd_T42 l1 x6_2).f3) ((rd_T42 l1 x6_2).f4)).bind fun bt215 => (annalistlaw18_PropPhases.j2 k2 a0 l1 x6_2 t178 t187 t196 t197 bt215.2.1 bt215.2.2.1 bt215.2.2.2.1 bt215.2.2.2.2.1 bt215.2.2.2.2.2.1 bt215.2.2.2.2.2.2.1 bt215.2.2.2.2.2.2.2.1 bt215.2.2.2.2.2.2.2.2 bq26 ((rd_T42 l1 x6_2).f1) ((rd_T42 l1 x6_2).f2) ((rd_T42 l1 x6_2).f3) ((rd_T42 l1 x6_2).f4)))) = some r := by rw [← hbq26] at H; exact H
                  have Nbq26 := Aside0.mk hbq26
                  clear hbq26
                  (try rw [← Nbq26.out])
                  by_cases c27 : bq26 = true
                  · subst c27
                    have H1 : ((prop_Prop_Accepted.f t198 t199 t200 t201 t202 t203 t204 t205 ((rd_T42 l1 x6_2).f1) ((rd_T42 l1 x6_2).f2)).bind fun bt206 => (annalistlaw18_PropPhases.j2 k2 a0 l1 x6_2 t178 t187 t196 t197 bt206.2.1 bt206.2.2.1 bt206.2.2.2.1 bt206.2.2.2.2.1 bt206.2.2.2.2.2.1 bt206.2.2.2.2.2.2.1 bt206.2.2.2.2.2.2.2.1 bt206.2.2.2.2.2.2.2.2 true ((rd_T42 l1 x6_2).f1) ((rd_T42 l1 x6_2).f2) ((rd_T42 l1 x6_2).f3) ((rd_T42 l1 x6_2).f4))) = some r := by rw [if_pos rfl] at H; exact H
                    clear H
                    have H := H1
                    clear H1
                    replace H := Option.bind_eq_some_iff.mp H
                    obtain ⟨⟨t206, t207, t208, t209, t210, t211, t212, t213, t214⟩, A280, H⟩ := H
                    replace H : (annalistlaw18_PropPhases.j2 k2 a0 l1 x6_2 t178 t187 t196 t197 t207 t208 t209 t210 t211 t212 t213 t214 true ((rd_T42 l1 x6_2).f1) ((rd_T42 l1 x6_2).f2) ((rd_T42 l1 x6_2).f3) ((rd_T42 l1 x6_2).f4)) = some r := H
                    have A28 := Aside0.mk A280
                    clear A280
                    have H' := Aside0.mk H
                    clear H
                    have hnb29 := NB177_175.out
                    have hnc29 := NB175_177.out
                    have BKn_ := Aside0.mk (by have h_ := BK177.out; rw [← Nbq26.out] at h_; exact h_); clear BK177; have BK177 := BKn_; clear BKn_
                    have hcz30_0 : w24.cell? ⟨gb177, 0, none⟩ = some (.bool true) := (blk_cell BK177.out 0).trans rfl
                    have hcz30_1 : w24.cell? ⟨gb177, 1, none⟩ = some (.int .i64 ((rd_T42 l1 x6_2).f1)) := (blk_cell BK177.out 1).trans rfl
                    have hcz30_2 : w24.cell? ⟨gb177, 2, none⟩ = some (.int .i64 ((rd_T42 l1 x6_2).f2)) := (blk_cell BK177.out 2).trans rfl
                    have hcz30_3 : w24.cell? ⟨gb177, 3, none⟩ = some (.int .i64 ((rd_T42 l1 x6_2).f3)) := (blk_cell BK177.out 3).trans rfl
                    have hcz30_4 : w24.cell? ⟨gb177, 4, none⟩ = some (.string ((rd_T42 l1 x6_2).f4)) := (blk_cell BK177.out 4).trans rfl
                    have hfz30_0 := blk_frozen BK177.out 0
                    have hfz30_1 := blk_frozen BK177.out 1
                    have hfz30_2 := blk_frozen BK177.out 2
                    have hfz30_3 := blk_frozen BK177.out 3
                    have hfz30_4 := blk_frozen BK177.out 4
                    go_wp2_with (first | ((with_reducible refine gate_callee (f := 25) rfl ?_); refine goesL_ (some 51) rfl rfl Try.func25 (by kernel_rfl) rfl #[.pointer (some ⟨g175, 0, none⟩), .int .i64 ((rd_T42 l1 x6_2).f1), .int .i64 ((rd_T42 l1 x6_2).f2)] rfl (by (try simp only [List.map_toArray, List.map_cons, List.map_nil]); first | done | rfl | (simp only [List.length_drop, List.length_take]; rfl)) ?_; (with_reducible refine (prop_Prop_Accepted.calls g175 t198 t199 t200 t201 t202 t203 t204 t205 ((rd_T42 l1 x6_2).f1) ((rd_T42 l1 x6_2).f2) t206 t207 t208 t209 t210 t211 t212 t213 t214 w _ ?side1 ?side2 A28.out).mono ?_); (case side1 => repeat (first | (with_reducible first | exact HI175.out | apply IsS57.alloc | apply IsS57.drewN | apply IsS57.drew | apply IsS57.set_0 | apply IsS57.set_1 | apply IsS57.set_2 | apply IsS57.set_3 | apply IsS57.set_4 | apply IsS57.set_5 | apply IsS57.set_6 | apply IsS57.set_7 | refine IsS57.far ?_ NB175_177.out _) | exact HI175.out)); (case side2 => repeat (first | (with_reducible first | exact HB.out | apply below_alloc | apply pw_below_drewN | apply below_drew1 | refine below_set ?_ (IsS57.ge HI175.out) | refine below_set ?_ GE177.out) | exact HB.out)); rintro e w31 ⟨rfl, hi, hb, hk⟩; refine ⟨_, rfl, ?_⟩; have n0_ := Aside0.mk (KeepBut.blk hk (g' := gb177) (o := .cells #[.bool true, .int .i64 ((rd_T42 l1 x6_2).f1), .int .i64 ((rd_T42 l1 x6_2).f2), .int .i64 ((rd_T42 l1 x6_2).f3), .string ((rd_T42 l1 x6_2).f4)] 42 (0, 0)) (by (with_reducible repeat (first | refine blk_drewN ?_ _ | refine blk_drew ?_ | refine blk_alloc ?_ _)); exact BK177.out) NB177_175.out (by simp)); have n1_ := Aside0.mk (hb); have n2_ := Aside0.mk (hi); clear BK177; clear HB; clear HI175; have BK177 := n0_; have HB := n1_; have HI175 := n2_; clear n0_ n1_ n2_; (try clear hb); (try clear hb2); (try clear hk); (try clear hi)))
                    go_meet
                    case rel => (have h1_ := BK177.out; rw [Nbq26.out] at h1_; have BK177 := Aside0.mk h1_; have h2_ := H'.out; rw [Nbq26.out] at h2_; have H' := Aside0.mk h2_; exact ⟨_, (t207), (t208), (t209), (t210), (t211), (t212), (t213), (t214), H', ⟨by have := HJ2.out; have := HK2.out; first | omega | exact Nat.le_refl _⟩, ⟨by (with_reducible repeat (first | refine blk_drewN ?_ _ | refine blk_drew ?_ | refine blk_alloc ?_ _)); exact BK177.out⟩, ⟨by repeat (first | (with_reducible first | exact HI175.out | apply IsS57.alloc | apply IsS57.drewN | apply IsS57.drew | apply IsS57.set_0 | apply IsS57.set_1 | apply IsS57.set_2 | apply IsS57.set_3 | apply IsS57.set_4 | apply IsS57.set_5 | apply IsS57.set_6 | apply IsS57.set_7 | refine IsS57.far ?_ NB175_177.out _) | exact HI175.out)⟩, ⟨by repeat (first | (with_reducible first | exact HB.out | apply below_alloc | apply pw_below_drewN | apply below_drew1 | refine below_set ?_ (IsS57.ge HI175.out) | refine below_set ?_ GE177.out) | exact HB.out)⟩⟩)
                  · replace c27 := Bool.eq_false_iff.mpr c27
                    subst c27
                    have H1 : ((prop_Prop_Promised.f k2 t198 t199 t200 t201 t202 t203 t204 t205 ((rd_T42 l1 x6_2).f1) ((rd_T42 l1 x6_2).f2) ((rd_T42 l1 x6_2).f3) ((rd_T42 l1 x6_2).f4)).bind fun bt215 => (annalistlaw18_PropPhases.j2 k2 a0 l1 x6_2 t178 t187 t196 t197 bt215.2.1 bt215.2.2.1 bt215.2.2.2.1 bt215.2.2.2.2.1 bt215.2.2.2.2.2.1 bt215.2.2.2.2.2.2.1 bt215.2.2.2.2.2.2.2.1 bt215.2.2.2.2.2.2.2.2 false ((rd_T42 l1 x6_2).f1) ((rd_T42 l1 x6_2).f2) ((rd_T42 l1 x6_2).f3) ((rd_T42 l1 x6_2).f4))) = some r := by rw [if_neg (show ¬ (false = true) by decide)] at H; exact H
                    clear H
                    have H := H1
                    clear H1
                    replace H := Option.bind_eq_some_iff.mp H
                    obtain ⟨⟨t215, t216, t217, t218, t219, t220, t221, t222, t223⟩, A320, H⟩ := H
                    replace H : (annalistlaw18_PropPhases.j2 k2 a0 l1 x6_2 t178 t187 t196 t197 t216 t217 t218 t219 t220 t221 t222 t223 false ((rd_T42 l1 x6_2).f1) ((rd_T42 l1 x6_2).f2) ((rd_T42 l1 x6_2).f3) ((rd_T42 l1 x6_2).f4)) = some r := H
                    have A32 := Aside0.mk A320
                    clear A320
                    have H' := Aside0.mk H
                    clear H
                    have hnb33 := NB177_175.out
                    have hnc33 := NB175_177.out
                    have BKn_ := Aside0.mk (by have h_ := BK177.out; rw [← Nbq26.out] at h_; exact h_); clear BK177; have BK177 := BKn_; clear BKn_
                    have hcz34_0 : w24.cell? ⟨gb177, 0, none⟩ = some (.bool false) := (blk_cell BK177.out 0).trans rfl
                    have hcz34_1 : w24.cell? ⟨gb177, 1, none⟩ = some (.int .i64 ((rd_T42 l1 x6_2).f1)) := (blk_cell BK177.out 1).trans rfl
                    have hcz34_2 : w24.cell? ⟨gb177, 2, none⟩ = some (.int .i64 ((rd_T42 l1 x6_2).f2)) := (blk_cell BK177.out 2).trans rfl
                    have hcz34_3 : w24.cell? ⟨gb177, 3, none⟩ = some (.int .i64 ((rd_T42 l1 x6_2).f3)) := (blk_cell BK177.out 3).trans rfl
                    have hcz34_4 : w24.cell? ⟨gb177, 4, none⟩ = some (.string ((rd_T42 l1 x6_2).f4)) := (blk_cell BK177.out 4).trans rfl
                    have hfz34_0 := blk_frozen BK177.out 0
                    have hfz34_1 := blk_frozen BK177.out 1
                    have hfz34_2 := blk_frozen BK177.out 2
                    have hfz34_3 := blk_frozen BK177.out 3
                    have hfz34_4 := blk_frozen BK177.out 4
                    go_wp2_with (first | ((with_reducible refine gate_callee (f := 22) rfl ?_); refine goesL_ (some 61) rfl rfl Try.func22 (by kernel_rfl) rfl #[.pointer (some ⟨g175, 0, none⟩), .int .i64 ((rd_T42 l1 x6_2).f1), .int .i64 ((rd_T42 l1 x6_2).f2), .int .i64 ((rd_T42 l1 x6_2).f3), .string ((rd_T42 l1 x6_2).f4)] rfl (by (try simp only [List.map_toArray, List.map_cons, List.map_nil]); first | done | rfl | (simp only [List.length_drop, List.length_take]; rfl)) ?_; (with_reducible refine (prop_Prop_Promised.calls k2 g175 t198 t199 t200 t201 t202 t203 t204 t205 ((rd_T42 l1 x6_2).f1) ((rd_T42 l1 x6_2).f2) ((rd_T42 l1 x6_2).f3) ((rd_T42 l1 x6_2).f4) t215 t216 t217 t218 t219 t220 t221 t222 t223 w _ ?side1 ?side2 A32.out).mono ?_); (case side1 => repeat (first | (with_reducible first | exact HI175.out | apply IsS57.alloc | apply IsS57.drewN | apply IsS57.drew | apply IsS57.set_0 | apply IsS57.set_1 | apply IsS57.set_2 | apply IsS57.set_3 | apply IsS57.set_4 | apply IsS57.set_5 | apply IsS57.set_6 | apply IsS57.set_7 | refine IsS57.far ?_ NB175_177.out _) | exact HI175.out)); (case side2 => repeat (first | (with_reducible first | exact HB.out | apply below_alloc | apply pw_below_drewN | apply below_drew1 | refine below_set ?_ (IsS57.ge HI175.out) | refine below_set ?_ GE177.out) | exact HB.out)); rintro e w35 ⟨rfl, hi, hb, hk⟩; refine ⟨_, rfl, ?_⟩; have n0_ := Aside0.mk (KeepBut.blk hk (g' := gb177) (o := .cells #[.bool false, .int .i64 ((rd_T42 l1 x6_2).f1), .int .i64 ((rd_T42 l1 x6_2).f2), .int .i64 ((rd_T42 l1 x6_2).f3), .string ((rd_T42 l1 x6_2).f4)] 42 (0, 0)) (by (with_reducible repeat (first | refine blk_drewN ?_ _ | refine blk_drew ?_ | refine blk_alloc ?_ _)); exact BK177.out) NB177_175.out (by simp)); have n1_ := Aside0.mk (hb); have n2_ := Aside0.mk (hi); clear BK177; clear HB; clear HI175; have BK177 := n0_; have HB := n1_; have HI175 := n2_; clear n0_ n1_ n2_; (try clear hb); (try clear hb2); (try clear hk); (try clear hi)))
                    go_meet
                    case rel => (have h1_ := BK177.out; rw [Nbq26.out] at h1_; have BK177 := Aside0.mk h1_; have h2_ := H'.out; rw [Nbq26.out] at h2_; have H' := Aside0.mk h2_; exact ⟨_, (t216), (t217), (t218), (t219), (t220), (t221), (t222), (t223), H', ⟨by have := HJ2.out; have := HK2.out; first | omega | exact Nat.le_refl _⟩, ⟨by (with_reducible repeat (first | refine blk_drewN ?_ _ | refine blk_drew ?_ | refine blk_alloc ?_ _)); exact BK177.out⟩, ⟨by repeat (first | (with_reducible first | exact HI175.out | apply IsS57.alloc | apply IsS57.drewN | apply IsS57.drew | apply IsS57.set_0 | apply IsS57.set_1 | apply IsS57.set_2 | apply IsS57.set_3 | apply IsS57.set_4 | apply IsS57.set_5 | apply IsS57.set_6 | apply IsS57.set_7 | refine IsS57.far ?_ NB175_177.out _) | exact HI175.out)⟩, ⟨by repeat (first | (with_reducible first | exact HB.out | apply below_alloc | apply pw_below_drewN | apply below_drew1 | refine below_set ?_ (IsS57.ge HI175.out) | refine below_set ?_ GE177.out) | exact HB.out)⟩⟩)
                case rest =>
                  clear HC18
                  try clear c1
                  try clear p1
                  try clear q1
                  try clear hx1
                  try clear c2
                  try clear p2
                  try clear q2
                  try clear c3
                  try clear c5
                  try clear c8
                  try clear c13
                  try clear c13b0
                  try clear c14
                  try clear c14b0
                  try clear p17
                  try clear q17
                  try clear hx17
                  try clear c20
                  try clear c21
                  try clear c22
                  try clear c23
                  try clear c24
                  try clear c25
                  try clear c26
                  try clear q26
                  try clear c27
                  try clear c29
                  try clear c33
                  try clear hcz21_0
                  try clear hcz21_1
                  try clear hcz21_2
                  try clear hcz21_3
                  try clear hcz21_4
                  try clear hcz25_0
                  try clear hcz25_1
                  try clear hcz25_2
                  try clear hcz25_3
                  try clear hcz25_4
                  try clear hcz30_0
                  try clear hcz30_1
                  try clear hcz30_2
                  try clear hcz30_3
                  try clear hcz30_4
                  try clear hcz34_0
                  try clear hcz34_1
                  try clear hcz34_2
                  try clear hcz34_3
                  try clear hcz34_4
                  try clear hfz21_0
                  try clear hfz21_1
                  try clear hfz21_2
                  try clear hfz21_3
                  try clear hfz21_4
                  try clear hfz25_0
                  try clear hfz25_1
                  try clear hfz25_2
                  try clear hfz25_3
                  try clear hfz25_4
                  try clear hfz30_0
                  try clear hfz30_1
                  try clear hfz30_2
                  try clear hfz30_3
                  try clear hfz30_4
                  try clear hfz34_0
                  try clear hfz34_1
                  try clear hfz34_2
                  try clear hfz34_3
                  try clear hfz34_4
                  try clear hx176_0
                  try clear hx176_1
                  try clear hx176_2
                  try clear hx176_3
                  try clear hx176_4
                  try clear p176
                  try clear p2
                  try clear q176
                  obtain ⟨kq, x176000_17, x176001_17, x176002_17, x176003_17, x176004_17, x176005_17, x176006_17, x176007_17, HA, HJ17, BK177, HI175, HB⟩ := hcut
                  cases kq with
                  | zero => exact absurd HA.out (by simp [annalistlaw18_PropPhases.j2])
                  | succ kj17 =>
                    have H := HA.out
                    clear HA
                    simp only [annalistlaw18_PropPhases.j2] at H
                    replace H := Option.bind_eq_some_iff.mp H
                    obtain ⟨⟨t224, t225, t226, t227, t228, t229, t230, t231, t232, t233⟩, A360, H⟩ := H
                    replace H : (if ((rd_T42 l1 x6_2).f2) = 5 then (if ((rd_T42 l1 x6_2).f1) < 0 then (annalistlaw18_PropPhases.j3 kj17 a0 l1 x6_2 t178 t187 t196 t197 t224 t225 true t226 t227 t228 t229 t230 t231 t232 t233) else (annalistlaw18_PropPhases.j3 kj17 a0 l1 x6_2 t178 t187 t196 t197 t224 t225 (decide (((rd_T42 l1 x6_2).f1) ≥ (mn (mx a0 1) 63))) t226 t227 t228 t229 t230 t231 t232 t233)) else (annalistlaw18_PropPhases.j3 kj17 a0 l1 x6_2 t178 t187 t196 t197 t224 t225 true t226 t227 t228 t229 t230 t231 t232 t233)) = some r := H
                    have A36 := Aside0.mk A360
                    clear A360
                    have HC37 := Aside0.mk H
                    clear H
                    go_upto_region 14 with (first | ((with_reducible refine gate_callee (f := 26) rfl ?_); refine goesL_ (some 64) rfl rfl Try.func26 (by kernel_rfl) rfl #[.pointer (some ⟨g175, 0, none⟩)] rfl (by (try simp only [List.map_toArray, List.map_cons, List.map_nil]); first | done | rfl | (simp only [List.length_drop, List.length_take]; rfl)) ?_; (with_reducible refine (prop_Prop_Voters.calls g175 x176000_17 x176001_17 x176002_17 x176003_17 x176004_17 x176005_17 x176006_17 x176007_17 t224 t225 t226 t227 t228 t229 t230 t231 t232 t233 w _ ?side1 ?side2 A36.out).mono ?_); (case side1 => repeat (first | (with_reducible first | exact HI175.out | apply IsS57.alloc | apply IsS57.drewN | apply IsS57.drew | apply IsS57.set_0 | apply IsS57.set_1 | apply IsS57.set_2 | apply IsS57.set_3 | apply IsS57.set_4 | apply IsS57.set_5 | apply IsS57.set_6 | apply IsS57.set_7 | refine IsS57.far ?_ NB175_177.out _) | exact HI175.out)); (case side2 => repeat (first | (with_reducible first | exact HB.out | apply below_alloc | apply pw_below_drewN | apply below_drew1 | refine below_set ?_ (IsS57.ge HI175.out) | refine below_set ?_ GE177.out) | exact HB.out)); rintro e w38 ⟨rfl, hi, hb, hk⟩; refine ⟨_, rfl, ?_⟩; have n0_ := Aside0.mk (KeepBut.blk hk (g' := gb177) (o := .cells #[.bool ((rd_T42 l1 x6_2).f0), .int .i64 ((rd_T42 l1 x6_2).f1), .int .i64 ((rd_T42 l1 x6_2).f2), .int .i64 ((rd_T42 l1 x6_2).f3), .string ((rd_T42 l1 x6_2).f4)] 42 (0, 0)) (by (with_reducible repeat (first | refine blk_drewN ?_ _ | refine blk_drew ?_ | refine blk_alloc ?_ _)); exact BK177.out) NB177_175.out (by simp)); have n1_ := Aside0.mk (hb); have n2_ := Aside0.mk (hi); clear BK177; clear HB; clear HI175; have BK177 := n0_; have HB := n1_; have HI175 := n2_; clear n0_ n1_ n2_; (try clear hb); (try clear hb2); (try clear hk); (try clear hi)))
                    (try simp only [Act.put, List.setIfInBounds_toArray, List.set_cons_zero, List.set_cons_succ])
                    go_cut [14] (fun v14 wc => ∃ (kq : Nat) (x14_36 : Bool), v14 = .bool x14_36 ∧ Aside0 (annalistlaw18_PropPhases.j3 kq a0 l1 x6_2 t178 t187 t196 t197 t224 t225 x14_36 t226 t227 t228 t229 t230 t231 t232 t233 = some r) ∧ Aside0 (kq ≤ kj17) ∧ Aside0 (wc.heap[gb177]? = some (.cells #[.bool ((rd_T42 l1 x6_2).f0), .int .i64 ((rd_T42 l1 x6_2).f1), .int .i64 ((rd_T42 l1 x6_2).f2), .int .i64 ((rd_T42 l1 x6_2).f3), .string ((rd_T42 l1 x6_2).f4)] 42 (0, 0))) ∧ Aside0 (IsS57 w wc g175 t226 t227 t228 t229 t230 t231 t232 t233) ∧ Aside0 (Below w.heap.size w wc))
                    case first =>
                      have H := HC37.out
                      clear HC37
                      by_cases c39 : ((rd_T42 l1 x6_2).f2) = 5
                      · rw [if_pos c39] at H
                        have c39b0 : (((rd_T42 l1 x6_2).f2) == 5) = true := beq_iff_eq.mpr c39
                        have c39b1 : (((rd_T42 l1 x6_2).f2) != 5) = false := bne_eq_false_iff_eq.mpr c39
                        clear c39
                        (first | rw [c39b0] | (simp only [i64_w, i32_w]; rw [c39b0]) | skip)
                        by_cases c40 : ((rd_T42 l1 x6_2).f1) < 0
                        · rw [if_pos c40] at H
                          have c40b0 : decide (((rd_T42 l1 x6_2).f1) < 0) = true := decide_eq_true c40
                          clear c40
                          have H' := Aside0.mk H
                          clear H
                          have hnb41 := NB177_175.out
                          have hnc41 := NB175_177.out
                          have hcz42_0 : w38.cell? ⟨gb177, 0, none⟩ = some (.bool ((rd_T42 l1 x6_2).f0)) := (blk_cell BK177.out 0).trans rfl
                          have hcz42_1 : w38.cell? ⟨gb177, 1, none⟩ = some (.int .i64 ((rd_T42 l1 x6_2).f1)) := (blk_cell BK177.out 1).trans rfl
                          have hcz42_2 : w38.cell? ⟨gb177, 2, none⟩ = some (.int .i64 ((rd_T42 l1 x6_2).f2)) := (blk_cell BK177.out 2).trans rfl
                          have hcz42_3 : w38.cell? ⟨gb177, 3, none⟩ = some (.int .i64 ((rd_T42 l1 x6_2).f3)) := (blk_cell BK177.out 3).trans rfl
                          have hcz42_4 : w38.cell? ⟨gb177, 4, none⟩ = some (.string ((rd_T42 l1 x6_2).f4)) := (blk_cell BK177.out 4).trans rfl
                          have hfz42_0 := blk_frozen BK177.out 0
                          have hfz42_1 := blk_frozen BK177.out 1
                          have hfz42_2 := blk_frozen BK177.out 2
                          have hfz42_3 := blk_frozen BK177.out 3
                          have hfz42_4 := blk_frozen BK177.out 4
                          go_wp2
                          go_meet
                          case rel => exact ⟨_, (true), (by first | rfl | (simp; done) | (simp [*]; done)), H', ⟨by have := HJ2.out; have := HK2.out; have := HJ17.out; first | omega | exact Nat.le_refl _⟩, ⟨by (with_reducible repeat (first | refine blk_drewN ?_ _ | refine blk_drew ?_ | refine blk_alloc ?_ _)); exact BK177.out⟩, ⟨by repeat (first | (with_reducible first | exact HI175.out | apply IsS57.alloc | apply IsS57.drewN | apply IsS57.drew | apply IsS57.set_0 | apply IsS57.set_1 | apply IsS57.set_2 | apply IsS57.set_3 | apply IsS57.set_4 | apply IsS57.set_5 | apply IsS57.set_6 | apply IsS57.set_7 | refine IsS57.far ?_ NB175_177.out _) | exact HI175.out)⟩, ⟨by repeat (first | (with_reducible first | exact HB.out | apply below_alloc | apply pw_below_drewN | apply below_drew1 | refine below_set ?_ (IsS57.ge HI175.out) | refine below_set ?_ GE177.out) | exact HB.out)⟩⟩
                        · rw [if_neg c40] at H
                          have c40b0 : decide (((rd_T42 l1 x6_2).f1) < 0) = false := decide_eq_false c40
                          clear c40
                          obtain ⟨ji43, hji43⟩ : ∃ j_ : Int, (mx a0 1) = j_ := ⟨_, rfl⟩
                          replace H : (annalistlaw18_PropPhases.j3 kj17 a0 l1 x6_2 t178 t187 t196 t197 t224 t225 (decide (((rd_T42 l1 x6_2).f1) ≥ (mn (ji43) 63))) t226 t227 t228 t229 t230 t231 t232 t233) = some r := by first | (rw [hji43] at H; exact H) | (simp only [hji43] at H ⊢; exact H)
                          (try (have hji43l : 1 ≤ ji43 := by (rw [← hji43]; unfold mx; (repeat' split) <;> omega)))
                          (try (have hji43m : 0 ≤ ji43 := by omega))
                          have hji43_ : (if a0 < 1 then 1 else a0) = ji43 := hji43
                          obtain ⟨ji44, hji44⟩ : ∃ j_ : Int, (mn (ji43) 63) = j_ := ⟨_, rfl⟩
                          replace H : (annalistlaw18_PropPhases.j3 kj17 a0 l1 x6_2 t178 t187 t196 t197 t224 t225 (decide (((rd_T42 l1 x6_2).f1) ≥ (ji44))) t226 t227 t228 t229 t230 t231 t232 t233) = some r := by first | (rw [hji44] at H; exact H) | (simp only [hji44] at H ⊢; exact H)
                          have hji44_ : (if 63 < (ji43) then 63 else (ji43)) = ji44 := hji44
                          have H' := Aside0.mk H
                          clear H
                          have hnb45 := NB177_175.out
                          have hnc45 := NB175_177.out
                          have hcz46_0 : w38.cell? ⟨gb177, 0, none⟩ = some (.bool ((rd_T42 l1 x6_2).f0)) := (blk_cell BK177.out 0).trans rfl
                          have hcz46_1 : w38.cell? ⟨gb177, 1, none⟩ = some (.int .i64 ((rd_T42 l1 x6_2).f1)) := (blk_cell BK177.out 1).trans rfl
                          have hcz46_2 : w38.cell? ⟨gb177, 2, none⟩ = some (.int .i64 ((rd_T42 l1 x6_2).f2)) := (blk_cell BK177.out 2).trans rfl
                          have hcz46_3 : w38.cell? ⟨gb177, 3, none⟩ = some (.int .i64 ((rd_T42 l1 x6_2).f3)) := (blk_cell BK177.out 3).trans rfl
                          have hcz46_4 : w38.cell? ⟨gb177, 4, none⟩ = some (.string ((rd_T42 l1 x6_2).f4)) := (blk_cell BK177.out 4).trans rfl
                          have hfz46_0 := blk_frozen BK177.out 0
                          have hfz46_1 := blk_frozen BK177.out 1
                          have hfz46_2 := blk_frozen BK177.out 2
                          have hfz46_3 := blk_frozen BK177.out 3
                          have hfz46_4 := blk_frozen BK177.out 4
                          go_wp2
                          go_meet
                          case rel => exact ⟨_, (decide (((rd_T42 l1 x6_2).f1) ≥ (ji44))), (by first | rfl | (simp; done) | (simp only [← hji44] <;> (first | rfl | simp)) | (simp [*]; done)), H', ⟨by have := HJ2.out; have := HK2.out; have := HJ17.out; first | omega | exact Nat.le_refl _⟩, ⟨by (with_reducible repeat (first | refine blk_drewN ?_ _ | refine blk_drew ?_ | refine blk_alloc ?_ _)); exact BK177.out⟩, ⟨by repeat (first | (with_reducible first | exact HI175.out | apply IsS57.alloc | apply IsS57.drewN | apply IsS57.drew | apply IsS57.set_0 | apply IsS57.set_1 | apply IsS57.set_2 | apply IsS57.set_3 | apply IsS57.set_4 | apply IsS57.set_5 | apply IsS57.set_6 | apply IsS57.set_7 | refine IsS57.far ?_ NB175_177.out _) | exact HI175.out)⟩, ⟨by repeat (first | (with_reducible first | exact HB.out | apply below_alloc | apply pw_below_drewN | apply below_drew1 | refine below_set ?_ (IsS57.ge HI175.out) | refine below_set ?_ GE177.out) | exact HB.out)⟩⟩
                      · rw [if_neg c39] at H
                        have c39b0 : (((rd_T42 l1 x6_2).f2) == 5) = false := beq_eq_false_iff_ne.mpr c39
                        have c39b1 : (((rd_T42 l1 x6_2).f2) != 5) = true := bne_iff_ne.mpr c39
                        (first | rw [c39b0] | (simp only [i64_w, i32_w]; rw [c39b0]) | skip)
                        have H' := Aside0.mk H
                        clear H
                        have hnb47 := NB177_175.out
                        have hnc47 := NB175_177.out
                        have hcz48_0 : w38.cell? ⟨gb177, 0, none⟩ = some (.bool ((rd_T42 l1 x6_2).f0)) := (blk_cell BK177.out 0).trans rfl
                        have hcz48_1 : w38.cell? ⟨gb177, 1, none⟩ = some (.int .i64 ((rd_T42 l1 x6_2).f1)) := (blk_cell BK177.out 1).trans rfl
                        have hcz48_2 : w38.cell? ⟨gb177, 2, none⟩ = some (.int .i64 ((rd_T42 l1 x6_2).f2)) := (blk_cell BK177.out 2).trans rfl
                        have hcz48_3 : w38.cell? ⟨gb177, 3, none⟩ = some (.int .i64 ((rd_T42 l1 x6_2).f3)) := (blk_cell BK177.out 3).trans rfl
                        have hcz48_4 : w38.cell? ⟨gb177, 4, none⟩ = some (.string ((rd_T42 l1 x6_2).f4)) := (blk_cell BK177.out 4).trans rfl
                        have hfz48_0 := blk_frozen BK177.out 0
                        have hfz48_1 := blk_frozen BK177.out 1
                        have hfz48_2 := blk_frozen BK177.out 2
                        have hfz48_3 := blk_frozen BK177.out 3
                        have hfz48_4 := blk_frozen BK177.out 4
                        go_wp2
                        go_meet
                        case rel => exact ⟨_, (true), (by first | rfl | (simp; done) | (simp [*]; done)), H', ⟨by have := HJ2.out; have := HK2.out; have := HJ17.out; first | omega | exact Nat.le_refl _⟩, ⟨by (with_reducible repeat (first | refine blk_drewN ?_ _ | refine blk_drew ?_ | refine blk_alloc ?_ _)); exact BK177.out⟩, ⟨by repeat (first | (with_reducible first | exact HI175.out | apply IsS57.alloc | apply IsS57.drewN | apply IsS57.drew | apply IsS57.set_0 | apply IsS57.set_1 | apply IsS57.set_2 | apply IsS57.set_3 | apply IsS57.set_4 | apply IsS57.set_5 | apply IsS57.set_6 | apply IsS57.set_7 | refine IsS57.far ?_ NB175_177.out _) | exact HI175.out)⟩, ⟨by repeat (first | (with_reducible first | exact HB.out | apply below_alloc | apply pw_below_drewN | apply below_drew1 | refine below_set ?_ (IsS57.ge HI175.out) | refine below_set ?_ GE177.out) | exact HB.out)⟩⟩
                    case rest =>
                      clear HC37
                      try clear c1
                      try clear p1
                      try clear q1
                      try clear hx1
                      try clear c2
                      try clear p2
                      try clear q2
                      try clear c3
                      try clear c4
                      try clear c5
                      try clear c8
                      try clear c13
                      try clear c13b0
                      try clear c14
                      try clear c14b0
                      try clear p17
                      try clear q17
                      try clear hx17
                      try clear c20
                      try clear c21
                      try clear c22
                      try clear c23
                      try clear c24
                      try clear c25
                      try clear c26
                      try clear q26
                      try clear c27
                      try clear c29
                      try clear c33
                      try clear c39
                      try clear c39b0
                      try clear c39b1
                      try clear c40
                      try clear c40b0
                      try clear c41
                      try clear c45
                      try clear c47
                      try clear hcz21_0
                      try clear hcz21_1
                      try clear hcz21_2
                      try clear hcz21_3
                      try clear hcz21_4
                      try clear hcz25_0
                      try clear hcz25_1
                      try clear hcz25_2
                      try clear hcz25_3
                      try clear hcz25_4
                      try clear hcz30_0
                      try clear hcz30_1
                      try clear hcz30_2
                      try clear hcz30_3
                      try clear hcz30_4
                      try clear hcz34_0
                      try clear hcz34_1
                      try clear hcz34_2
                      try clear hcz34_3
                      try clear hcz34_4
                      try clear hcz42_0
                      try clear hcz42_1
                      try clear hcz42_2
                      try clear hcz42_3
                      try clear hcz42_4
                      try clear hcz46_0
                      try clear hcz46_1
                      try clear hcz46_2
                      try clear hcz46_3
                      try clear hcz46_4
                      try clear hcz48_0
                      try clear hcz48_1
                      try clear hcz48_2
                      try clear hcz48_3
                      try clear hcz48_4
                      try clear hfz21_0
                      try clear hfz21_1
                      try clear hfz21_2
                      try clear hfz21_3
                      try clear hfz21_4
                      try clear hfz25_0
                      try clear hfz25_1
                      try clear hfz25_2
                      try clear hfz25_3
                      try clear hfz25_4
                      try clear hfz30_0
                      try clear hfz30_1
                      try clear hfz30_2
                      try clear hfz30_3
                      try clear hfz30_4
                      try clear hfz34_0
                      try clear hfz34_1
                      try clear hfz34_2
                      try clear hfz34_3
                      try clear hfz34_4
                      try clear hfz42_0
                      try clear hfz42_1
                      try clear hfz42_2
                      try clear hfz42_3
                      try clear hfz42_4
                      try clear hfz46_0
                      try clear hfz46_1
                      try clear hfz46_2
                      try clear hfz46_3
                      try clear hfz46_4
                      try clear hfz48_0
                      try clear hfz48_1
                      try clear hfz48_2
                      try clear hfz48_3
                      try clear hfz48_4
                      try clear hx176_0
                      try clear hx176_1
                      try clear hx176_2
                      try clear hx176_3
                      try clear hx176_4
                      try clear p1
                      try clear p17
                      try clear p176
                      try clear p2
                      try clear q1
                      try clear q17
                      try clear q176
                      try clear q2
                      try clear q26
                      obtain ⟨kq, x14_36, rfl, HA, HJ36, BK177, HI175, HB⟩ := hcut
                      cases kq with
                      | zero => exact absurd HA.out (by simp [annalistlaw18_PropPhases.j3])
                      | succ kj36 =>
                        have H := HA.out
                        clear HA
                        simp only [annalistlaw18_PropPhases.j3] at H
                        replace H := Option.bind_eq_some_iff.mp H
                        obtain ⟨⟨t234, t235, t236, t237, t238, t239, t240, t241, t242⟩, A490, H⟩ := H
                        replace H : (if t234 < t178 then (some false) else (if x14_36 = true then ((prop_Prop_Phase.f t235 t236 t237 t238 t239 t240 t241 t242).bind fun bt243 => (if bt243.1 = t178 then ((prop_Prop_Value.f bt243.2.1 bt243.2.2.1 bt243.2.2.2.1 bt243.2.2.2.2.1 bt243.2.2.2.2.2.1 bt243.2.2.2.2.2.2.1 bt243.2.2.2.2.2.2.2.1 bt243.2.2.2.2.2.2.2.2).bind fun bt252 => (if bt252.1.toList = t187.toList then (if t196 = t224 then (if t197 = t225 then (annalistlaw18_PropPhases.l0 kj36 a0 l1 (wrap64 (x6_2 + 1)) bt252.2.1 bt252.2.2.1 bt252.2.2.2.1 bt252.2.2.2.2.1 bt252.2.2.2.2.2.1 bt252.2.2.2.2.2.2.1 bt252.2.2.2.2.2.2.2.1 bt252.2.2.2.2.2.2.2.2) else (some false)) else (some false)) else (some false))) else (some false))) else (annalistlaw18_PropPhases.l0 kj36 a0 l1 (wrap64 (x6_2 + 1)) t235 t236 t237 t238 t239 t240 t241 t242))) = some r := H
                        have A49 := Aside0.mk A490
                        clear A490
                        by_cases c50 : t234 < t178
                        · rw [if_pos c50] at H
                          have c50b0 : decide (t234 < t178) = true := decide_eq_true c50
                          clear c50
                          obtain rfl := Option.some.inj H
                          go_wp2_with (first | ((with_reducible refine gate_callee (f := 24) rfl ?_); refine goesL_ (some 84) rfl rfl Try.func24 (by kernel_rfl) rfl #[.pointer (some ⟨g175, 0, none⟩)] rfl (by (try simp only [List.map_toArray, List.map_cons, List.map_nil]); first | done | rfl | (simp only [List.length_drop, List.length_take]; rfl)) ?_; (with_reducible refine (prop_Prop_Phase.calls g175 t226 t227 t228 t229 t230 t231 t232 t233 t234 t235 t236 t237 t238 t239 t240 t241 t242 w _ ?side1 ?side2 A49.out).mono ?_); (case side1 => repeat (first | (with_reducible first | exact HI175.out | apply IsS57.alloc | apply IsS57.drewN | apply IsS57.drew | apply IsS57.set_0 | apply IsS57.set_1 | apply IsS57.set_2 | apply IsS57.set_3 | apply IsS57.set_4 | apply IsS57.set_5 | apply IsS57.set_6 | apply IsS57.set_7 | refine IsS57.far ?_ NB175_177.out _) | exact HI175.out)); (case side2 => repeat (first | (with_reducible first | exact HB.out | apply below_alloc | apply pw_below_drewN | apply below_drew1 | refine below_set ?_ (IsS57.ge HI175.out) | refine below_set ?_ GE177.out) | exact HB.out)); rintro e w51 ⟨rfl, hi, hb, hk⟩; refine ⟨_, rfl, ?_⟩; have n0_ := Aside0.mk (KeepBut.blk hk (g' := gb177) (o := .cells #[.bool ((rd_T42 l1 x6_2).f0), .int .i64 ((rd_T42 l1 x6_2).f1), .int .i64 ((rd_T42 l1 x6_2).f2), .int .i64 ((rd_T42 l1 x6_2).f3), .string ((rd_T42 l1 x6_2).f4)] 42 (0, 0)) (by (with_reducible repeat (first | refine blk_drewN ?_ _ | refine blk_drew ?_ | refine blk_alloc ?_ _)); exact BK177.out) NB177_175.out (by simp)); have n1_ := Aside0.mk (hb); have n2_ := Aside0.mk (hi); clear BK177; clear HB; clear HI175; have BK177 := n0_; have HB := n1_; have HI175 := n2_; clear n0_ n1_ n2_; (try clear hb); (try clear hb2); (try clear hk); (try clear hi)))
                          go_ret
                          exact ⟨by first | rfl | (simp [errW_none, errW_some] <;> rfl) | (simp [*, errW_none, errW_some] <;> rfl), by repeat (first | (with_reducible first | exact HB.out | apply below_alloc | apply pw_below_drewN | apply below_drew1 | refine below_set ?_ (IsS57.ge HI175.out) | refine below_set ?_ GE177.out) | exact HB.out)⟩
                        · rw [if_neg c50] at H
                          have c50b0 : decide (t234 < t178) = false := decide_eq_false c50
                          clear c50
                          by_cases c52 : x14_36 = true
                          · subst c52
                            have H1 : ((prop_Prop_Phase.f t235 t236 t237 t238 t239 t240 t241 t242).bind fun bt243 => (if bt243.1 = t178 then ((prop_Prop_Value.f bt243.2.1 bt243.2.2.1 bt243.2.2.2.1 bt243.2.2.2.2.1 bt243.2.2.2.2.2.1 bt243.2.2.2.2.2.2.1 bt243.2.2.2.2.2.2.2.1 bt243.2.2.2.2.2.2.2.2).bind fun bt252 => (if bt252.1.toList = t187.toList then (if t196 = t224 then (if t197 = t225 then (annalistlaw18_PropPhases.l0 kj36 a0 l1 (wrap64 (x6_2 + 1)) bt252.2.1 bt252.2.2.1 bt252.2.2.2.1 bt252.2.2.2.2.1 bt252.2.2.2.2.2.1 bt252.2.2.2.2.2.2.1 bt252.2.2.2.2.2.2.2.1 bt252.2.2.2.2.2.2.2.2) else (some false)) else (some false)) else (some false))) else (some false))) = some r := by rw [if_pos rfl] at H; exact H
                            clear H
                            have H := H1
                            clear H1
                            replace H := Option.bind_eq_some_iff.mp H
                            obtain ⟨⟨t243, t244, t245, t246, t247, t248, t249, t250, t251⟩, A530, H⟩ := H
                            replace H : (if t243 = t178 then ((prop_Prop_Value.f t244 t245 t246 t247 t248 t249 t250 t251).bind fun bt252 => (if bt252.1.toList = t187.toList then (if t196 = t224 then (if t197 = t225 then (annalistlaw18_PropPhases.l0 kj36 a0 l1 (wrap64 (x6_2 + 1)) bt252.2.1 bt252.2.2.1 bt252.2.2.2.1 bt252.2.2.2.2.1 bt252.2.2.2.2.2.1 bt252.2.2.2.2.2.2.1 bt252.2.2.2.2.2.2.2.1 bt252.2.2.2.2.2.2.2.2) else (some false)) else (some false)) else (some false))) else (some false)) = some r := H
                            have A53 := Aside0.mk A530
                            clear A530
                            by_cases c54 : t243 = t178
                            · rw [if_pos c54] at H
                              have c54b0 : (t243 == t178) = true := beq_iff_eq.mpr c54
                              have c54b1 : (t243 != t178) = false := bne_eq_false_iff_eq.mpr c54
                              clear c54
                              replace H := Option.bind_eq_some_iff.mp H
                              obtain ⟨⟨t252, t253, t254, t255, t256, t257, t258, t259, t260⟩, A550, H⟩ := H
                              replace H : (if t252.toList = t187.toList then (if t196 = t224 then (if t197 = t225 then (annalistlaw18_PropPhases.l0 kj36 a0 l1 (wrap64 (x6_2 + 1)) t253 t254 t255 t256 t257 t258 t259 t260) else (some false)) else (some false)) else (some false)) = some r := H
                              have A55 := Aside0.mk A550
                              clear A550
                              by_cases c56 : t252.toList = t187.toList
                              · rw [if_pos c56] at H
                                have c56b0 : (t252.toList == t187.toList) = true := beq_iff_eq.mpr c56
                                have c56b1 : (t252.toList != t187.toList) = false := bne_eq_false_iff_eq.mpr c56
                                clear c56
                                by_cases c57 : t196 = t224
                                · rw [if_pos c57] at H
                                  have c57b0 : (t196 == t224) = true := beq_iff_eq.mpr c57
                                  have c57b1 : (t196 != t224) = false := bne_eq_false_iff_eq.mpr c57
                                  clear c57
                                  by_cases c58 : t197 = t225
                                  · rw [if_pos c58] at H
                                    have c58b0 : (t197 == t225) = true := beq_iff_eq.mpr c58
                                    have c58b1 : (t197 != t225) = false := bne_eq_false_iff_eq.mpr c58
                                    clear c58
                                    have H' := Aside0.mk H
                                    clear H
                                    go_wp2_with (first | ((with_reducible refine gate_callee (f := 24) rfl ?_); refine goesL_ (some 84) rfl rfl Try.func24 (by kernel_rfl) rfl #[.pointer (some ⟨g175, 0, none⟩)] rfl (by (try simp only [List.map_toArray, List.map_cons, List.map_nil]); first | done | rfl | (simp only [List.length_drop, List.length_take]; rfl)) ?_; (with_reducible refine (prop_Prop_Phase.calls g175 t226 t227 t228 t229 t230 t231 t232 t233 t234 t235 t236 t237 t238 t239 t240 t241 t242 w _ ?side1 ?side2 A49.out).mono ?_); (case side1 => repeat (first | (with_reducible first | exact HI175.out | apply IsS57.alloc | apply IsS57.drewN | apply IsS57.drew | apply IsS57.set_0 | apply IsS57.set_1 | apply IsS57.set_2 | apply IsS57.set_3 | apply IsS57.set_4 | apply IsS57.set_5 | apply IsS57.set_6 | apply IsS57.set_7 | refine IsS57.far ?_ NB175_177.out _) | exact HI175.out)); (case side2 => repeat (first | (with_reducible first | exact HB.out | apply below_alloc | apply pw_below_drewN | apply below_drew1 | refine below_set ?_ (IsS57.ge HI175.out) | refine below_set ?_ GE177.out) | exact HB.out)); rintro e w59 ⟨rfl, hi, hb, hk⟩; refine ⟨_, rfl, ?_⟩; have n0_ := Aside0.mk (KeepBut.blk hk (g' := gb177) (o := .cells #[.bool ((rd_T42 l1 x6_2).f0), .int .i64 ((rd_T42 l1 x6_2).f1), .int .i64 ((rd_T42 l1 x6_2).f2), .int .i64 ((rd_T42 l1 x6_2).f3), .string ((rd_T42 l1 x6_2).f4)] 42 (0, 0)) (by (with_reducible repeat (first | refine blk_drewN ?_ _ | refine blk_drew ?_ | refine blk_alloc ?_ _)); exact BK177.out) NB177_175.out (by simp)); have n1_ := Aside0.mk (hb); have n2_ := Aside0.mk (hi); clear BK177; clear HB; clear HI175; have BK177 := n0_; have HB := n1_; have HI175 := n2_; clear n0_ n1_ n2_; (try clear hb); (try clear hb2); (try clear hk); (try clear hi)) | (go_at_call 24; (with_reducible refine (prop_Prop_Phase.calls g175 t235 t236 t237 t238 t239 t240 t241 t242 t243 t244 t245 t246 t247 t248 t249 t250 t251 w _ ?side1 ?side2 A53.out).mono ?_); (case side1 => repeat (first | (with_reducible first | exact HI175.out | apply IsS57.alloc | apply IsS57.drewN | apply IsS57.drew | apply IsS57.set_0 | apply IsS57.set_1 | apply IsS57.set_2 | apply IsS57.set_3 | apply IsS57.set_4 | apply IsS57.set_5 | apply IsS57.set_6 | apply IsS57.set_7 | refine IsS57.far ?_ NB175_177.out _) | exact HI175.out)); (case side2 => repeat (first | (with_reducible first | exact HB.out | apply below_alloc | apply pw_below_drewN | apply below_drew1 | refine below_set ?_ (IsS57.ge HI175.out) | refine below_set ?_ GE177.out) | exact HB.out)); rintro e w60 ⟨rfl, hi, hb, hk⟩; have n0_ := Aside0.mk (KeepBut.blk hk (g' := gb177) (o := .cells #[.bool ((rd_T42 l1 x6_2).f0), .int .i64 ((rd_T42 l1 x6_2).f1), .int .i64 ((rd_T42 l1 x6_2).f2), .int .i64 ((rd_T42 l1 x6_2).f3), .string ((rd_T42 l1 x6_2).f4)] 42 (0, 0)) (by (with_reducible repeat (first | refine blk_drewN ?_ _ | refine blk_drew ?_ | refine blk_alloc ?_ _)); exact BK177.out) NB177_175.out (by simp)); have n1_ := Aside0.mk (hb); have n2_ := Aside0.mk (hi); clear BK177; clear HB; clear HI175; have BK177 := n0_; have HB := n1_; have HI175 := n2_; clear n0_ n1_ n2_; (try clear hb); (try clear hb2); (try clear hk); (try clear hi)) | (go_at_call 23; (with_reducible refine (prop_Prop_Value.calls g175 t244 t245 t246 t247 t248 t249 t250 t251 t252 t253 t254 t255 t256 t257 t258 t259 t260 w _ ?side1 ?side2 A55.out).mono ?_); (case side1 => repeat (first | (with_reducible first | exact HI175.out | apply IsS57.alloc | apply IsS57.drewN | apply IsS57.drew | apply IsS57.set_0 | apply IsS57.set_1 | apply IsS57.set_2 | apply IsS57.set_3 | apply IsS57.set_4 | apply IsS57.set_5 | apply IsS57.set_6 | apply IsS57.set_7 | refine IsS57.far ?_ NB175_177.out _) | exact HI175.out)); (case side2 => repeat (first | (with_reducible first | exact HB.out | apply below_alloc | apply pw_below_drewN | apply below_drew1 | refine below_set ?_ (IsS57.ge HI175.out) | refine below_set ?_ GE177.out) | exact HB.out)); rintro e w61 ⟨rfl, hi, hb, hk⟩; have n0_ := Aside0.mk (KeepBut.blk hk (g' := gb177) (o := .cells #[.bool ((rd_T42 l1 x6_2).f0), .int .i64 ((rd_T42 l1 x6_2).f1), .int .i64 ((rd_T42 l1 x6_2).f2), .int .i64 ((rd_T42 l1 x6_2).f3), .string ((rd_T42 l1 x6_2).f4)] 42 (0, 0)) (by (with_reducible repeat (first | refine blk_drewN ?_ _ | refine blk_drew ?_ | refine blk_alloc ?_ _)); exact BK177.out) NB177_175.out (by simp)); have n1_ := Aside0.mk (hb); have n2_ := Aside0.mk (hi); clear BK177; clear HB; clear HI175; have BK177 := n0_; have HB := n1_; have HI175 := n2_; clear n0_ n1_ n2_; (try clear hb); (try clear hb2); (try clear hk); (try clear hi)))
                                    go_roundg kj36
                                    case measure => have := HJ2.out; have := HK2.out; have := HJ17.out; have := HJ36.out; omega
                                    case rel => exact ⟨(wrap64 (x6_2 + 1)), (t253), (t254), (t255), (t256), (t257), (t258), (t259), (t260), (by first | rfl | (simp; done) | (simp [*]; done)), H', ⟨by have := HJ2.out; have := HK2.out; have := HJ17.out; have := HJ36.out; omega⟩, ⟨by repeat (first | (with_reducible first | exact HI175.out | apply IsS57.alloc | apply IsS57.drewN | apply IsS57.drew | apply IsS57.set_0 | apply IsS57.set_1 | apply IsS57.set_2 | apply IsS57.set_3 | apply IsS57.set_4 | apply IsS57.set_5 | apply IsS57.set_6 | apply IsS57.set_7 | refine IsS57.far ?_ NB175_177.out _) | exact HI175.out)⟩, ⟨by repeat (first | (with_reducible first | exact HB.out | apply below_alloc | apply pw_below_drewN | apply below_drew1 | refine below_set ?_ (IsS57.ge HI175.out) | refine below_set ?_ GE177.out) | exact HB.out)⟩⟩
                                  · rw [if_neg c58] at H
                                    have c58b0 : (t197 == t225) = false := beq_eq_false_iff_ne.mpr c58
                                    have c58b1 : (t197 != t225) = true := bne_iff_ne.mpr c58
                                    obtain rfl := Option.some.inj H
                                    go_wp2_with (first | ((with_reducible refine gate_callee (f := 24) rfl ?_); refine goesL_ (some 84) rfl rfl Try.func24 (by kernel_rfl) rfl #[.pointer (some ⟨g175, 0, none⟩)] rfl (by (try simp only [List.map_toArray, List.map_cons, List.map_nil]); first | done | rfl | (simp only [List.length_drop, List.length_take]; rfl)) ?_; (with_reducible refine (prop_Prop_Phase.calls g175 t226 t227 t228 t229 t230 t231 t232 t233 t234 t235 t236 t237 t238 t239 t240 t241 t242 w _ ?side1 ?side2 A49.out).mono ?_); (case side1 => repeat (first | (with_reducible first | exact HI175.out | apply IsS57.alloc | apply IsS57.drewN | apply IsS57.drew | apply IsS57.set_0 | apply IsS57.set_1 | apply IsS57.set_2 | apply IsS57.set_3 | apply IsS57.set_4 | apply IsS57.set_5 | apply IsS57.set_6 | apply IsS57.set_7 | refine IsS57.far ?_ NB175_177.out _) | exact HI175.out)); (case side2 => repeat (first | (with_reducible first | exact HB.out | apply below_alloc | apply pw_below_drewN | apply below_drew1 | refine below_set ?_ (IsS57.ge HI175.out) | refine below_set ?_ GE177.out) | exact HB.out)); rintro e w62 ⟨rfl, hi, hb, hk⟩; refine ⟨_, rfl, ?_⟩; have n0_ := Aside0.mk (KeepBut.blk hk (g' := gb177) (o := .cells #[.bool ((rd_T42 l1 x6_2).f0), .int .i64 ((rd_T42 l1 x6_2).f1), .int .i64 ((rd_T42 l1 x6_2).f2), .int .i64 ((rd_T42 l1 x6_2).f3), .string ((rd_T42 l1 x6_2).f4)] 42 (0, 0)) (by (with_reducible repeat (first | refine blk_drewN ?_ _ | refine blk_drew ?_ | refine blk_alloc ?_ _)); exact BK177.out) NB177_175.out (by simp)); have n1_ := Aside0.mk (hb); have n2_ := Aside0.mk (hi); clear BK177; clear HB; clear HI175; have BK177 := n0_; have HB := n1_; have HI175 := n2_; clear n0_ n1_ n2_; (try clear hb); (try clear hb2); (try clear hk); (try clear hi)) | (go_at_call 24; (with_reducible refine (prop_Prop_Phase.calls g175 t235 t236 t237 t238 t239 t240 t241 t242 t243 t244 t245 t246 t247 t248 t249 t250 t251 w _ ?side1 ?side2 A53.out).mono ?_); (case side1 => repeat (first | (with_reducible first | exact HI175.out | apply IsS57.alloc | apply IsS57.drewN | apply IsS57.drew | apply IsS57.set_0 | apply IsS57.set_1 | apply IsS57.set_2 | apply IsS57.set_3 | apply IsS57.set_4 | apply IsS57.set_5 | apply IsS57.set_6 | apply IsS57.set_7 | refine IsS57.far ?_ NB175_177.out _) | exact HI175.out)); (case side2 => repeat (first | (with_reducible first | exact HB.out | apply below_alloc | apply pw_below_drewN | apply below_drew1 | refine below_set ?_ (IsS57.ge HI175.out) | refine below_set ?_ GE177.out) | exact HB.out)); rintro e w63 ⟨rfl, hi, hb, hk⟩; have n0_ := Aside0.mk (KeepBut.blk hk (g' := gb177) (o := .cells #[.bool ((rd_T42 l1 x6_2).f0), .int .i64 ((rd_T42 l1 x6_2).f1), .int .i64 ((rd_T42 l1 x6_2).f2), .int .i64 ((rd_T42 l1 x6_2).f3), .string ((rd_T42 l1 x6_2).f4)] 42 (0, 0)) (by (with_reducible repeat (first | refine blk_drewN ?_ _ | refine blk_drew ?_ | refine blk_alloc ?_ _)); exact BK177.out) NB177_175.out (by simp)); have n1_ := Aside0.mk (hb); have n2_ := Aside0.mk (hi); clear BK177; clear HB; clear HI175; have BK177 := n0_; have HB := n1_; have HI175 := n2_; clear n0_ n1_ n2_; (try clear hb); (try clear hb2); (try clear hk); (try clear hi)) | (go_at_call 23; (with_reducible refine (prop_Prop_Value.calls g175 t244 t245 t246 t247 t248 t249 t250 t251 t252 t253 t254 t255 t256 t257 t258 t259 t260 w _ ?side1 ?side2 A55.out).mono ?_); (case side1 => repeat (first | (with_reducible first | exact HI175.out | apply IsS57.alloc | apply IsS57.drewN | apply IsS57.drew | apply IsS57.set_0 | apply IsS57.set_1 | apply IsS57.set_2 | apply IsS57.set_3 | apply IsS57.set_4 | apply IsS57.set_5 | apply IsS57.set_6 | apply IsS57.set_7 | refine IsS57.far ?_ NB175_177.out _) | exact HI175.out)); (case side2 => repeat (first | (with_reducible first | exact HB.out | apply below_alloc | apply pw_below_drewN | apply below_drew1 | refine below_set ?_ (IsS57.ge HI175.out) | refine below_set ?_ GE177.out) | exact HB.out)); rintro e w64 ⟨rfl, hi, hb, hk⟩; have n0_ := Aside0.mk (KeepBut.blk hk (g' := gb177) (o := .cells #[.bool ((rd_T42 l1 x6_2).f0), .int .i64 ((rd_T42 l1 x6_2).f1), .int .i64 ((rd_T42 l1 x6_2).f2), .int .i64 ((rd_T42 l1 x6_2).f3), .string ((rd_T42 l1 x6_2).f4)] 42 (0, 0)) (by (with_reducible repeat (first | refine blk_drewN ?_ _ | refine blk_drew ?_ | refine blk_alloc ?_ _)); exact BK177.out) NB177_175.out (by simp)); have n1_ := Aside0.mk (hb); have n2_ := Aside0.mk (hi); clear BK177; clear HB; clear HI175; have BK177 := n0_; have HB := n1_; have HI175 := n2_; clear n0_ n1_ n2_; (try clear hb); (try clear hb2); (try clear hk); (try clear hi)))
                                    go_ret
                                    exact ⟨by first | rfl | (simp [errW_none, errW_some] <;> rfl) | (simp [*, errW_none, errW_some] <;> rfl), by repeat (first | (with_reducible first | exact HB.out | apply below_alloc | apply pw_below_drewN | apply below_drew1 | refine below_set ?_ (IsS57.ge HI175.out) | refine below_set ?_ GE177.out) | exact HB.out)⟩
                                · rw [if_neg c57] at H
                                  have c57b0 : (t196 == t224) = false := beq_eq_false_iff_ne.mpr c57
                                  have c57b1 : (t196 != t224) = true := bne_iff_ne.mpr c57
                                  obtain rfl := Option.some.inj H
                                  go_wp2_with (first | ((with_reducible refine gate_callee (f := 24) rfl ?_); refine goesL_ (some 84) rfl rfl Try.func24 (by kernel_rfl) rfl #[.pointer (some ⟨g175, 0, none⟩)] rfl (by (try simp only [List.map_toArray, List.map_cons, List.map_nil]); first | done | rfl | (simp only [List.length_drop, List.length_take]; rfl)) ?_; (with_reducible refine (prop_Prop_Phase.calls g175 t226 t227 t228 t229 t230 t231 t232 t233 t234 t235 t236 t237 t238 t239 t240 t241 t242 w _ ?side1 ?side2 A49.out).mono ?_); (case side1 => repeat (first | (with_reducible first | exact HI175.out | apply IsS57.alloc | apply IsS57.drewN | apply IsS57.drew | apply IsS57.set_0 | apply IsS57.set_1 | apply IsS57.set_2 | apply IsS57.set_3 | apply IsS57.set_4 | apply IsS57.set_5 | apply IsS57.set_6 | apply IsS57.set_7 | refine IsS57.far ?_ NB175_177.out _) | exact HI175.out)); (case side2 => repeat (first | (with_reducible first | exact HB.out | apply below_alloc | apply pw_below_drewN | apply below_drew1 | refine below_set ?_ (IsS57.ge HI175.out) | refine below_set ?_ GE177.out) | exact HB.out)); rintro e w65 ⟨rfl, hi, hb, hk⟩; refine ⟨_, rfl, ?_⟩; have n0_ := Aside0.mk (KeepBut.blk hk (g' := gb177) (o := .cells #[.bool ((rd_T42 l1 x6_2).f0), .int .i64 ((rd_T42 l1 x6_2).f1), .int .i64 ((rd_T42 l1 x6_2).f2), .int .i64 ((rd_T42 l1 x6_2).f3), .string ((rd_T42 l1 x6_2).f4)] 42 (0, 0)) (by (with_reducible repeat (first | refine blk_drewN ?_ _ | refine blk_drew ?_ | refine blk_alloc ?_ _)); exact BK177.out) NB177_175.out (by simp)); have n1_ := Aside0.mk (hb); have n2_ := Aside0.mk (hi); clear BK177; clear HB; clear HI175; have BK177 := n0_; have HB := n1_; have HI175 := n2_; clear n0_ n1_ n2_; (try clear hb); (try clear hb2); (try clear hk); (try clear hi)) | (go_at_call 24; (with_reducible refine (prop_Prop_Phase.calls g175 t235 t236 t237 t238 t239 t240 t241 t242 t243 t244 t245 t246 t247 t248 t249 t250 t251 w _ ?side1 ?side2 A53.out).mono ?_); (case side1 => repeat (first | (with_reducible first | exact HI175.out | apply IsS57.alloc | apply IsS57.drewN | apply IsS57.drew | apply IsS57.set_0 | apply IsS57.set_1 | apply IsS57.set_2 | apply IsS57.set_3 | apply IsS57.set_4 | apply IsS57.set_5 | apply IsS57.set_6 | apply IsS57.set_7 | refine IsS57.far ?_ NB175_177.out _) | exact HI175.out)); (case side2 => repeat (first | (with_reducible first | exact HB.out | apply below_alloc | apply pw_below_drewN | apply below_drew1 | refine below_set ?_ (IsS57.ge HI175.out) | refine below_set ?_ GE177.out) | exact HB.out)); rintro e w66 ⟨rfl, hi, hb, hk⟩; have n0_ := Aside0.mk (KeepBut.blk hk (g' := gb177) (o := .cells #[.bool ((rd_T42 l1 x6_2).f0), .int .i64 ((rd_T42 l1 x6_2).f1), .int .i64 ((rd_T42 l1 x6_2).f2), .int .i64 ((rd_T42 l1 x6_2).f3), .string ((rd_T42 l1 x6_2).f4)] 42 (0, 0)) (by (with_reducible repeat (first | refine blk_drewN ?_ _ | refine blk_drew ?_ | refine blk_alloc ?_ _)); exact BK177.out) NB177_175.out (by simp)); have n1_ := Aside0.mk (hb); have n2_ := Aside0.mk (hi); clear BK177; clear HB; clear HI175; have BK177 := n0_; have HB := n1_; have HI175 := n2_; clear n0_ n1_ n2_; (try clear hb); (try clear hb2); (try clear hk); (try clear hi)) | (go_at_call 23; (with_reducible refine (prop_Prop_Value.calls g175 t244 t245 t246 t247 t248 t249 t250 t251 t252 t253 t254 t255 t256 t257 t258 t259 t260 w _ ?side1 ?side2 A55.out).mono ?_); (case side1 => repeat (first | (with_reducible first | exact HI175.out | apply IsS57.alloc | apply IsS57.drewN | apply IsS57.drew | apply IsS57.set_0 | apply IsS57.set_1 | apply IsS57.set_2 | apply IsS57.set_3 | apply IsS57.set_4 | apply IsS57.set_5 | apply IsS57.set_6 | apply IsS57.set_7 | refine IsS57.far ?_ NB175_177.out _) | exact HI175.out)); (case side2 => repeat (first | (with_reducible first | exact HB.out | apply below_alloc | apply pw_below_drewN | apply below_drew1 | refine below_set ?_ (IsS57.ge HI175.out) | refine below_set ?_ GE177.out) | exact HB.out)); rintro e w67 ⟨rfl, hi, hb, hk⟩; have n0_ := Aside0.mk (KeepBut.blk hk (g' := gb177) (o := .cells #[.bool ((rd_T42 l1 x6_2).f0), .int .i64 ((rd_T42 l1 x6_2).f1), .int .i64 ((rd_T42 l1 x6_2).f2), .int .i64 ((rd_T42 l1 x6_2).f3), .string ((rd_T42 l1 x6_2).f4)] 42 (0, 0)) (by (with_reducible repeat (first | refine blk_drewN ?_ _ | refine blk_drew ?_ | refine blk_alloc ?_ _)); exact BK177.out) NB177_175.out (by simp)); have n1_ := Aside0.mk (hb); have n2_ := Aside0.mk (hi); clear BK177; clear HB; clear HI175; have BK177 := n0_; have HB := n1_; have HI175 := n2_; clear n0_ n1_ n2_; (try clear hb); (try clear hb2); (try clear hk); (try clear hi)))
                                  go_ret
                                  exact ⟨by first | rfl | (simp [errW_none, errW_some] <;> rfl) | (simp [*, errW_none, errW_some] <;> rfl), by repeat (first | (with_reducible first | exact HB.out | apply below_alloc | apply pw_below_drewN | apply below_drew1 | refine below_set ?_ (IsS57.ge HI175.out) | refine below_set ?_ GE177.out) | exact HB.out)⟩
                              · rw [if_neg c56] at H
                                have c56b0 : (t252.toList == t187.toList) = false := beq_eq_false_iff_ne.mpr c56
                                have c56b1 : (t252.toList != t187.toList) = true := bne_iff_ne.mpr c56
                                obtain rfl := Option.some.inj H
                                go_wp2_with (first | ((with_reducible refine gate_callee (f := 24) rfl ?_); refine goesL_ (some 84) rfl rfl Try.func24 (by kernel_rfl) rfl #[.pointer (some ⟨g175, 0, none⟩)] rfl (by (try simp only [List.map_toArray, List.map_cons, List.map_nil]); first | done | rfl | (simp only [List.length_drop, List.length_take]; rfl)) ?_; (with_reducible refine (prop_Prop_Phase.calls g175 t226 t227 t228 t229 t230 t231 t232 t233 t234 t235 t236 t237 t238 t239 t240 t241 t242 w _ ?side1 ?side2 A49.out).mono ?_); (case side1 => repeat (first | (with_reducible first | exact HI175.out | apply IsS57.alloc | apply IsS57.drewN | apply IsS57.drew | apply IsS57.set_0 | apply IsS57.set_1 | apply IsS57.set_2 | apply IsS57.set_3 | apply IsS57.set_4 | apply IsS57.set_5 | apply IsS57.set_6 | apply IsS57.set_7 | refine IsS57.far ?_ NB175_177.out _) | exact HI175.out)); (case side2 => repeat (first | (with_reducible first | exact HB.out | apply below_alloc | apply pw_below_drewN | apply below_drew1 | refine below_set ?_ (IsS57.ge HI175.out) | refine below_set ?_ GE177.out) | exact HB.out)); rintro e w68 ⟨rfl, hi, hb, hk⟩; refine ⟨_, rfl, ?_⟩; have n0_ := Aside0.mk (KeepBut.blk hk (g' := gb177) (o := .cells #[.bool ((rd_T42 l1 x6_2).f0), .int .i64 ((rd_T42 l1 x6_2).f1), .int .i64 ((rd_T42 l1 x6_2).f2), .int .i64 ((rd_T42 l1 x6_2).f3), .string ((rd_T42 l1 x6_2).f4)] 42 (0, 0)) (by (with_reducible repeat (first | refine blk_drewN ?_ _ | refine blk_drew ?_ | refine blk_alloc ?_ _)); exact BK177.out) NB177_175.out (by simp)); have n1_ := Aside0.mk (hb); have n2_ := Aside0.mk (hi); clear BK177; clear HB; clear HI175; have BK177 := n0_; have HB := n1_; have HI175 := n2_; clear n0_ n1_ n2_; (try clear hb); (try clear hb2); (try clear hk); (try clear hi)) | (go_at_call 24; (with_reducible refine (prop_Prop_Phase.calls g175 t235 t236 t237 t238 t239 t240 t241 t242 t243 t244 t245 t246 t247 t248 t249 t250 t251 w _ ?side1 ?side2 A53.out).mono ?_); (case side1 => repeat (first | (with_reducible first | exact HI175.out | apply IsS57.alloc | apply IsS57.drewN | apply IsS57.drew | apply IsS57.set_0 | apply IsS57.set_1 | apply IsS57.set_2 | apply IsS57.set_3 | apply IsS57.set_4 | apply IsS57.set_5 | apply IsS57.set_6 | apply IsS57.set_7 | refine IsS57.far ?_ NB175_177.out _) | exact HI175.out)); (case side2 => repeat (first | (with_reducible first | exact HB.out | apply below_alloc | apply pw_below_drewN | apply below_drew1 | refine below_set ?_ (IsS57.ge HI175.out) | refine below_set ?_ GE177.out) | exact HB.out)); rintro e w69 ⟨rfl, hi, hb, hk⟩; have n0_ := Aside0.mk (KeepBut.blk hk (g' := gb177) (o := .cells #[.bool ((rd_T42 l1 x6_2).f0), .int .i64 ((rd_T42 l1 x6_2).f1), .int .i64 ((rd_T42 l1 x6_2).f2), .int .i64 ((rd_T42 l1 x6_2).f3), .string ((rd_T42 l1 x6_2).f4)] 42 (0, 0)) (by (with_reducible repeat (first | refine blk_drewN ?_ _ | refine blk_drew ?_ | refine blk_alloc ?_ _)); exact BK177.out) NB177_175.out (by simp)); have n1_ := Aside0.mk (hb); have n2_ := Aside0.mk (hi); clear BK177; clear HB; clear HI175; have BK177 := n0_; have HB := n1_; have HI175 := n2_; clear n0_ n1_ n2_; (try clear hb); (try clear hb2); (try clear hk); (try clear hi)) | (go_at_call 23; (with_reducible refine (prop_Prop_Value.calls g175 t244 t245 t246 t247 t248 t249 t250 t251 t252 t253 t254 t255 t256 t257 t258 t259 t260 w _ ?side1 ?side2 A55.out).mono ?_); (case side1 => repeat (first | (with_reducible first | exact HI175.out | apply IsS57.alloc | apply IsS57.drewN | apply IsS57.drew | apply IsS57.set_0 | apply IsS57.set_1 | apply IsS57.set_2 | apply IsS57.set_3 | apply IsS57.set_4 | apply IsS57.set_5 | apply IsS57.set_6 | apply IsS57.set_7 | refine IsS57.far ?_ NB175_177.out _) | exact HI175.out)); (case side2 => repeat (first | (with_reducible first | exact HB.out | apply below_alloc | apply pw_below_drewN | apply below_drew1 | refine below_set ?_ (IsS57.ge HI175.out) | refine below_set ?_ GE177.out) | exact HB.out)); rintro e w70 ⟨rfl, hi, hb, hk⟩; have n0_ := Aside0.mk (KeepBut.blk hk (g' := gb177) (o := .cells #[.bool ((rd_T42 l1 x6_2).f0), .int .i64 ((rd_T42 l1 x6_2).f1), .int .i64 ((rd_T42 l1 x6_2).f2), .int .i64 ((rd_T42 l1 x6_2).f3), .string ((rd_T42 l1 x6_2).f4)] 42 (0, 0)) (by (with_reducible repeat (first | refine blk_drewN ?_ _ | refine blk_drew ?_ | refine blk_alloc ?_ _)); exact BK177.out) NB177_175.out (by simp)); have n1_ := Aside0.mk (hb); have n2_ := Aside0.mk (hi); clear BK177; clear HB; clear HI175; have BK177 := n0_; have HB := n1_; have HI175 := n2_; clear n0_ n1_ n2_; (try clear hb); (try clear hb2); (try clear hk); (try clear hi)))
                                go_ret
                                exact ⟨by first | rfl | (simp [errW_none, errW_some] <;> rfl) | (simp [*, errW_none, errW_some] <;> rfl), by repeat (first | (with_reducible first | exact HB.out | apply below_alloc | apply pw_below_drewN | apply below_drew1 | refine below_set ?_ (IsS57.ge HI175.out) | refine below_set ?_ GE177.out) | exact HB.out)⟩
                            · rw [if_neg c54] at H
                              have c54b0 : (t243 == t178) = false := beq_eq_false_iff_ne.mpr c54
                              have c54b1 : (t243 != t178) = true := bne_iff_ne.mpr c54
                              obtain rfl := Option.some.inj H
                              go_wp2_with (first | ((with_reducible refine gate_callee (f := 24) rfl ?_); refine goesL_ (some 84) rfl rfl Try.func24 (by kernel_rfl) rfl #[.pointer (some ⟨g175, 0, none⟩)] rfl (by (try simp only [List.map_toArray, List.map_cons, List.map_nil]); first | done | rfl | (simp only [List.length_drop, List.length_take]; rfl)) ?_; (with_reducible refine (prop_Prop_Phase.calls g175 t226 t227 t228 t229 t230 t231 t232 t233 t234 t235 t236 t237 t238 t239 t240 t241 t242 w _ ?side1 ?side2 A49.out).mono ?_); (case side1 => repeat (first | (with_reducible first | exact HI175.out | apply IsS57.alloc | apply IsS57.drewN | apply IsS57.drew | apply IsS57.set_0 | apply IsS57.set_1 | apply IsS57.set_2 | apply IsS57.set_3 | apply IsS57.set_4 | apply IsS57.set_5 | apply IsS57.set_6 | apply IsS57.set_7 | refine IsS57.far ?_ NB175_177.out _) | exact HI175.out)); (case side2 => repeat (first | (with_reducible first | exact HB.out | apply below_alloc | apply pw_below_drewN | apply below_drew1 | refine below_set ?_ (IsS57.ge HI175.out) | refine below_set ?_ GE177.out) | exact HB.out)); rintro e w71 ⟨rfl, hi, hb, hk⟩; refine ⟨_, rfl, ?_⟩; have n0_ := Aside0.mk (KeepBut.blk hk (g' := gb177) (o := .cells #[.bool ((rd_T42 l1 x6_2).f0), .int .i64 ((rd_T42 l1 x6_2).f1), .int .i64 ((rd_T42 l1 x6_2).f2), .int .i64 ((rd_T42 l1 x6_2).f3), .string ((rd_T42 l1 x6_2).f4)] 42 (0, 0)) (by (with_reducible repeat (first | refine blk_drewN ?_ _ | refine blk_drew ?_ | refine blk_alloc ?_ _)); exact BK177.out) NB177_175.out (by simp)); have n1_ := Aside0.mk (hb); have n2_ := Aside0.mk (hi); clear BK177; clear HB; clear HI175; have BK177 := n0_; have HB := n1_; have HI175 := n2_; clear n0_ n1_ n2_; (try clear hb); (try clear hb2); (try clear hk); (try clear hi)) | (go_at_call 24; (with_reducible refine (prop_Prop_Phase.calls g175 t235 t236 t237 t238 t239 t240 t241 t242 t243 t244 t245 t246 t247 t248 t249 t250 t251 w _ ?side1 ?side2 A53.out).mono ?_); (case side1 => repeat (first | (with_reducible first | exact HI175.out | apply IsS57.alloc | apply IsS57.drewN | apply IsS57.drew | apply IsS57.set_0 | apply IsS57.set_1 | apply IsS57.set_2 | apply IsS57.set_3 | apply IsS57.set_4 | apply IsS57.set_5 | apply IsS57.set_6 | apply IsS57.set_7 | refine IsS57.far ?_ NB175_177.out _) | exact HI175.out)); (case side2 => repeat (first | (with_reducible first | exact HB.out | apply below_alloc | apply pw_below_drewN | apply below_drew1 | refine below_set ?_ (IsS57.ge HI175.out) | refine below_set ?_ GE177.out) | exact HB.out)); rintro e w72 ⟨rfl, hi, hb, hk⟩; have n0_ := Aside0.mk (KeepBut.blk hk (g' := gb177) (o := .cells #[.bool ((rd_T42 l1 x6_2).f0), .int .i64 ((rd_T42 l1 x6_2).f1), .int .i64 ((rd_T42 l1 x6_2).f2), .int .i64 ((rd_T42 l1 x6_2).f3), .string ((rd_T42 l1 x6_2).f4)] 42 (0, 0)) (by (with_reducible repeat (first | refine blk_drewN ?_ _ | refine blk_drew ?_ | refine blk_alloc ?_ _)); exact BK177.out) NB177_175.out (by simp)); have n1_ := Aside0.mk (hb); have n2_ := Aside0.mk (hi); clear BK177; clear HB; clear HI175; have BK177 := n0_; have HB := n1_; have HI175 := n2_; clear n0_ n1_ n2_; (try clear hb); (try clear hb2); (try clear hk); (try clear hi)))
                              go_ret
                              exact ⟨by first | rfl | (simp [errW_none, errW_some] <;> rfl) | (simp [*, errW_none, errW_some] <;> rfl), by repeat (first | (with_reducible first | exact HB.out | apply below_alloc | apply pw_below_drewN | apply below_drew1 | refine below_set ?_ (IsS57.ge HI175.out) | refine below_set ?_ GE177.out) | exact HB.out)⟩
                          · replace c52 := Bool.eq_false_iff.mpr c52
                            subst c52
                            have H1 : (annalistlaw18_PropPhases.l0 kj36 a0 l1 (wrap64 (x6_2 + 1)) t235 t236 t237 t238 t239 t240 t241 t242) = some r := by rw [if_neg (show ¬ (false = true) by decide)] at H; exact H
                            clear H
                            have H := H1
                            clear H1
                            have H' := Aside0.mk H
                            clear H
                            go_wp2_with (first | ((with_reducible refine gate_callee (f := 24) rfl ?_); refine goesL_ (some 84) rfl rfl Try.func24 (by kernel_rfl) rfl #[.pointer (some ⟨g175, 0, none⟩)] rfl (by (try simp only [List.map_toArray, List.map_cons, List.map_nil]); first | done | rfl | (simp only [List.length_drop, List.length_take]; rfl)) ?_; (with_reducible refine (prop_Prop_Phase.calls g175 t226 t227 t228 t229 t230 t231 t232 t233 t234 t235 t236 t237 t238 t239 t240 t241 t242 w _ ?side1 ?side2 A49.out).mono ?_); (case side1 => repeat (first | (with_reducible first | exact HI175.out | apply IsS57.alloc | apply IsS57.drewN | apply IsS57.drew | apply IsS57.set_0 | apply IsS57.set_1 | apply IsS57.set_2 | apply IsS57.set_3 | apply IsS57.set_4 | apply IsS57.set_5 | apply IsS57.set_6 | apply IsS57.set_7 | refine IsS57.far ?_ NB175_177.out _) | exact HI175.out)); (case side2 => repeat (first | (with_reducible first | exact HB.out | apply below_alloc | apply pw_below_drewN | apply below_drew1 | refine below_set ?_ (IsS57.ge HI175.out) | refine below_set ?_ GE177.out) | exact HB.out)); rintro e w73 ⟨rfl, hi, hb, hk⟩; refine ⟨_, rfl, ?_⟩; have n0_ := Aside0.mk (KeepBut.blk hk (g' := gb177) (o := .cells #[.bool ((rd_T42 l1 x6_2).f0), .int .i64 ((rd_T42 l1 x6_2).f1), .int .i64 ((rd_T42 l1 x6_2).f2), .int .i64 ((rd_T42 l1 x6_2).f3), .string ((rd_T42 l1 x6_2).f4)] 42 (0, 0)) (by (with_reducible repeat (first | refine blk_drewN ?_ _ | refine blk_drew ?_ | refine blk_alloc ?_ _)); exact BK177.out) NB177_175.out (by simp)); have n1_ := Aside0.mk (hb); have n2_ := Aside0.mk (hi); clear BK177; clear HB; clear HI175; have BK177 := n0_; have HB := n1_; have HI175 := n2_; clear n0_ n1_ n2_; (try clear hb); (try clear hb2); (try clear hk); (try clear hi)))
                            go_roundg kj36
                            case measure => have := HJ2.out; have := HK2.out; have := HJ17.out; have := HJ36.out; omega
                            case rel => exact ⟨(wrap64 (x6_2 + 1)), (t235), (t236), (t237), (t238), (t239), (t240), (t241), (t242), (by first | rfl | (simp; done) | (simp [*]; done)), H', ⟨by have := HJ2.out; have := HK2.out; have := HJ17.out; have := HJ36.out; omega⟩, ⟨by repeat (first | (with_reducible first | exact HI175.out | apply IsS57.alloc | apply IsS57.drewN | apply IsS57.drew | apply IsS57.set_0 | apply IsS57.set_1 | apply IsS57.set_2 | apply IsS57.set_3 | apply IsS57.set_4 | apply IsS57.set_5 | apply IsS57.set_6 | apply IsS57.set_7 | refine IsS57.far ?_ NB175_177.out _) | exact HI175.out)⟩, ⟨by repeat (first | (with_reducible first | exact HB.out | apply below_alloc | apply pw_below_drewN | apply below_drew1 | refine below_set ?_ (IsS57.ge HI175.out) | refine below_set ?_ GE177.out) | exact HB.out)⟩⟩
              · rw [if_neg c14] at H
                exact absurd H (by simp)
            · rw [if_neg c13] at H
              have c13b0 : decide (x6_2 < (l1.length : Int)) = false := decide_eq_false c13
              clear c13
              obtain rfl := Option.some.inj H
              go_wp2
              go_ret
              exact ⟨by first | rfl | (simp [errW_none, errW_some] <;> rfl) | (simp [*, errW_none, errW_some] <;> rfl), by repeat (first | (with_reducible first | exact HB.out | apply below_alloc | apply pw_below_drewN | apply below_drew1 | refine below_set ?_ (IsS57.ge HI175.out)) | exact HB.out)⟩

end Go.Proofs.Ytpflopenjbealaa.PPropPhases
