/- Here is proved: of each size a plan's tiles have all hashes of each level, each once, highest level first. Conditions: none. -/
import Derived.Test.YtolapikiflodfaaQTileCoversx2
namespace Go.Proofs.Ytolapikiflodfaa.Pure
open Go.RowKit Go.Proofs.Ytolapikiflodfaa.PTileCovers Go.Proofs.YtolapikiflodfaaW.PrintWords Go.Proofs.YtolapikiflodfaaW.PrintLast

/-- a size is tried -/
def sizeOk (m : Nat) : Bool := decide (annalistlaw07_TileCovers.f 200 (m : Int) = some true)
theorem all_sizes : (List.range 65).all sizeOk = true := by decide +kernel

theorem TileCovers : annalistlaw07_TileCovers.Pure := by
  intro a0 h0
  have hr : 0 ≤ a0 ∧ a0 ≤ 255 := by simpa [Lit.wf, IntKind.min, IntKind.max, IntKind.signed, IntKind.bits] using h0
  refine ⟨200, ?_⟩
  have e : Int.tmod a0 65 = Int.tmod ((a0 % 65).toNat : Int) 65 := by
    rw [Int.tmod_eq_emod_of_nonneg hr.1, Int.tmod_eq_emod_of_nonneg (Int.natCast_nonneg _)]; omega
  have hm : sizeOk (a0 % 65).toNat = true := List.all_eq_true.1 all_sizes _ (List.mem_range.2 (by omega))
  have hf := of_decide_eq_true hm
  unfold annalistlaw07_TileCovers.f at hf ⊢
  rw [e]; exact hf
end Go.Proofs.Ytolapikiflodfaa.Pure
