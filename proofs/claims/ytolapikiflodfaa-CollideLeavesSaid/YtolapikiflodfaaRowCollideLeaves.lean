import Derived.Test.YtolapikiflodfaaRows
import Derived.Test.YtolapikiflodfaaQCollideLeavesx19
import Derived.Test.YtolapikiflodfaaPureCollideLeaves
import Derived.Test.YtolapikiflodfaaOpens
import Derived.WalkKit
import Derived.ProofKit
import Derived.OpenShut
import Derived.ShutString
import Derived.ChangeOld
import Derived.Below
import Derived.SizedLaws
namespace Go.Proofs.Ytolapikiflodfaa.collideLeaves
open Go.ChangeShapes Go.WideShapes Go.ChangeAt Go.RowKit
open Go.ChangeMaps (open_string shut_string)
open Go.Proofs.Ytolapikiflodfaa.PCollideLeaves Go.Proofs.YtolapikiflodfaaOpens Go.Proofs.YtolapikiflodfaaW.PrintWords
set_option linter.unusedVariables false
theorem own : ownKnob Try.prog.godebug = none := by kernel_rfl
theorem laidOut : laidOutB Try.prog = true := by kernel_rfl
set_option maxRecDepth 100000 in
theorem lifted (os : Os) (started : os.Started) (H : Type) (enc : TypeId × Value → H) :
    ReturnsInHanded {} Try.checked os 8 .any (Rows.collideLeavesSpec.pre6 enc Try.prog Try.f8 Rows.collideLeavesRow.domain false) (Rows.collideLeavesSpec.post enc Try.prog Try.f8 false true false false) := by
  refine returnsInHanded_of_change_sized (C := Try.checked) own started (by kernel_rfl) Try.func8
    (ChangeSpec.witness6 (enc := enc) (C := Try.checked) false ⟨#[], #[.int .u8 0, .agg #[.string ⟨#[]⟩, .int .i64 0, .int .i64 0, .slice none 0 0], .agg #[.string ⟨#[]⟩, .int .i64 0, .int .i64 0, .slice none 0 0]], []⟩ 8 (by kernel_rfl) (by kernel_rfl) (by kernel_rfl) (by kernel_rfl)) ?_
  intro W base args ds gs before hval0 hW hcnd hsz0 _
  have hsz : (DataW.weightsEach Try.prog (Try.f8.params.toList ++ Rows.collideLeavesSpec.plain.varTypes Try.prog) (ds ++ gs)).all (· ≤ reachBytes) = true := hsz0
  have hval : ∀ (j : Nat) t v, Try.f8.params[j]? = some t → args[j]? = some v → Value.okWide Try.prog W .any base t v := hval0
  have hW' := hW
  obtain ⟨p, q, hA0, hV, rfl, hfz, hnd⟩ := hW
  have hA : DataW.TrodAll enc Try.prog W 0 (fun _ => true) true Try.f8.params.toList args.toList ds p := hA0
  rw [Try.params8] at hA hval hsz
  obtain ⟨v0, vs0, d0, ds0, p0, q0, hargs, rfl, rfl, h0, r0⟩ := trodAll_cons hA
  obtain ⟨v1, vs1, d1, ds1, p1, q1, rfl, rfl, rfl, h1, r1⟩ := trodAll_cons r0
  obtain ⟨v2, vs2, d2, ds2, p2, q2, rfl, rfl, rfl, h2, r2⟩ := trodAll_cons r1
  obtain ⟨rfl, rfl, rfl⟩ := trodAll_nil r2
  obtain rfl : args = #[v0, v1, v2] := by cases args; simp_all
  obtain ⟨rfl, rfl⟩ := trodVars_none hV
  obtain ⟨a0, rfl, rfl, rfl, w0⟩ := open_int Try.underlying5 (hval 0 5 v0 rfl rfl) h0
  have k1 := h1
  have lt1 : ∀ x ∈ p1, x.block < W.heap.size := by obtain ⟨m, hm⟩ := k1; exact DataW.trod_lt m _ _ _ hm
  obtain ⟨cs1, x1, rfl, hK1, hq1⟩ := arg_agg (d := (Kd.pair Kd.string (Kd.pair (Kd.int .i64) (Kd.pair (Kd.int .i64) (Kd.slice 9 Kd.string))))) Try.underlying32 (reads_struct Try.underlying32 (by kernel_rfl) (fs_cons (reads_string Try.underlying9) (by kernel_rfl) rfl (by decide) (fs_cons (reads_int Try.underlying3) (by kernel_rfl) rfl (by decide) (fs_cons (reads_int Try.underlying3) (by kernel_rfl) rfl (by decide) (fs_last (reads_slice Try.underlying30 (by kernel_rfl) (reads_string Try.underlying9)) (by kernel_rfl) rfl))))) (hval 1 32 v1 rfl rfl) h1
  obtain ⟨ls1⟩ := cs1
  obtain ⟨x1_0, ⟨x1_1, ⟨x1_2, x1_3⟩⟩⟩ := x1
  obtain ⟨_, _, rfl, rfl, ⟨_, _, rfl, rfl, ⟨_, _, rfl, rfl, ⟨A1_3, c1_3, rfl, hl1_3, hC1_3⟩⟩⟩⟩ := hK1
  have k2 := h2
  have lt2 : ∀ x ∈ p2, x.block < W.heap.size := by obtain ⟨m, hm⟩ := k2; exact DataW.trod_lt m _ _ _ hm
  obtain ⟨cs2, x2, rfl, hK2, hq2⟩ := arg_agg (d := (Kd.pair Kd.string (Kd.pair (Kd.int .i64) (Kd.pair (Kd.int .i64) (Kd.slice 9 Kd.string))))) Try.underlying32 (reads_struct Try.underlying32 (by kernel_rfl) (fs_cons (reads_string Try.underlying9) (by kernel_rfl) rfl (by decide) (fs_cons (reads_int Try.underlying3) (by kernel_rfl) rfl (by decide) (fs_cons (reads_int Try.underlying3) (by kernel_rfl) rfl (by decide) (fs_last (reads_slice Try.underlying30 (by kernel_rfl) (reads_string Try.underlying9)) (by kernel_rfl) rfl))))) (hval 2 32 v2 rfl rfl) h2
  obtain ⟨ls2⟩ := cs2
  obtain ⟨x2_0, ⟨x2_1, ⟨x2_2, x2_3⟩⟩⟩ := x2
  obtain ⟨_, _, rfl, rfl, ⟨_, _, rfl, rfl, ⟨_, _, rfl, rfl, ⟨A2_3, c2_3, rfl, hl2_3, hC2_3⟩⟩⟩⟩ := hK2
  clear hA0 hval0 hsz0 hsz
  obtain ⟨k, hk⟩ := Pure.CollideLeaves a0 x1_0 x1_1 x1_2 x1_3 x2_0 x2_1 x2_2 x2_3 w0 hq1 hq2
  refine (annalistlaw08_CollideLeaves.calls (k := k) (h := hk) (w := W) (a0 := a0) (a1_0 := x1_0) (a1_1 := x1_1) (a1_2 := x1_2) (A1_3 := A1_3) (c1_3 := c1_3) (l1_3 := x1_3) (hr1_3 := hC1_3) (hc1_3 := hl1_3) (a2_0 := x2_0) (a2_1 := x2_1) (a2_2 := x2_2) (A2_3 := A2_3) (c2_3 := c2_3) (l2_3 := x2_3) (hr2_3 := hC2_3) (hc2_3 := hl2_3)).mono fun e W' ⟨he, bel⟩ => ?_
  subst he
  exact ⟨_, rfl, _, _, _, [], _, [], hW', trodAll_mk1 (shut_bool Try.underlying4 _), (trodAll_cons_mk (shut_int Try.underlying5 w0) (trodAll_cons_mk (Below.trod laidOut (by kernel_rfl) (of_decide_eq_true (by kernel_rfl)) k1 bel lt1) (trodAll_cons_mk (Below.trod laidOut (by kernel_rfl) (of_decide_eq_true (by kernel_rfl)) k2 bel lt2) trodAll_mk0))), rfl, bel.frame _, fun h => by cases h⟩
theorem over : Rows.collideLeavesRow.holds Try.pinned (OpenSpec.ofChange Rows.collideLeavesSpec) :=
  OpenClaim.holds_of_wide 8 Try.f8 rfl rfl rfl rfl rfl rfl rfl ⟨rfl, rfl, rfl, rfl, rfl⟩ rfl rfl rfl rfl rfl (by kernel_rfl) Try.func8 (by kernel_rfl)
    (of_decide_eq_true (by kernel_rfl)) (by unfold Func.isWrapper; first | (rw [if_pos (by decide +kernel)]; kernel_rfl) | (rw [if_neg (by decide +kernel)]; exact ⟨rfl, rfl⟩))
    (fun os started H enc _ => lifted os started H enc)
theorem proved : Rows.CollideLeavesSaid := over
#print axioms proved
end Go.Proofs.Ytolapikiflodfaa.collideLeaves
namespace Go.Proofs.Ytolapikiflodfaa
/-- The row, under a short name, for the claim. -/
theorem collideLeaves_holds : Rows.CollideLeavesSaid := collideLeaves.proved
end Go.Proofs.Ytolapikiflodfaa
