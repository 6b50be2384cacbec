/- Here is proved: annalistref08.Five and Full are hashers. Conditions: none. -/
import Derived.Test.YtolapikiflodfaaHsACollideLeaves
import Derived.Test.YtolapikiflodfaaQCollideLeavesx9
import Derived.Test.YtolapikiflodfaaRef01d
namespace Go.Proofs.Ytolapikiflodfaa.Hsh
open Go Go.RowKit Go.Proofs.YtolapikiflodfaaW.PrintWords Go.Proofs.YtolapikiflodfaaW.PrintLast Go.Proofs.YtolapikiflodfaaW.PrintMore
open Go.Proofs.Ytolapikiflodfaa.PCollideLeaves
theorem five_some (s : ByteArray) (hs : s.size ≤ 1000000000) : annalistref08_Five.f (s.size + 1) s = some (weakF 5 s) := by
  unfold annalistref08_Five.f
  rw [weakF_some 5 (by decide) s hs]
  rfl
def hs42 : Hs where
  id := 42
  fn := weakF 5
  size := weakF_size 5 (by decide)
  enters := enters_ Try.func42 (by kernel_rfl) rfl
  calls := fun s w hs => annalistref08_Five.calls (s.size + 1) s _ w (five_some s hs)
def fullF (s : ByteArray) : ByteArray := if s.size ≤ 1000000000 then Ref01.sumF s else nul32
theorem full_some (s : ByteArray) (hs : s.size ≤ 1000000000) : annalistref08_Full.f s = some (fullF s) := by
  unfold annalistref08_Full.f annalistref01_Sum.f fullF
  rw [if_pos hs, Option.bind_some, if_pos hs]
theorem fullF_size (s : ByteArray) : (fullF s).size = 32 := by
  unfold fullF
  split
  · exact Ref01.outF_size _ 8
  · rfl
def hs43 : Hs where
  id := 43
  fn := fullF
  size := fullF_size
  enters := enters_ Try.func43 (by kernel_rfl) rfl
  calls := fun s w hs => annalistref08_Full.calls s _ w (full_some s hs)
end Go.Proofs.Ytolapikiflodfaa.Hsh
