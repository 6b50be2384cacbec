import Derived.Test.YtpflopenjbealaaDoorProg
import Derived.Below
import Derived.Deep.Draws
import Derived.Deep.AppendLies
import Derived.Maps.AppendAt
import Derived.OwnWalk
import Derived.Laws.BytesArg
import Derived.Laws.MakeOwn
import Derived.Laws.OwnMore
import Derived.Deep.OwnRows
import Derived.Tactics
import Derived.Lib.ConvBytes
import Derived.Laws.Slices
import Derived.WalkKit
import Derived.KernelRfl
import Derived.RowKit3
import Derived.Deep.LoopGhost
import Derived.Deep.QuietTactic
import Derived.BigQuiet
import Derived.WideLaws
import Derived.Deep.DeepCutAuto
import Derived.Deep.CutBlock
import Derived.Deep.RegionHeld3
import Derived.Laws.Rows
import Derived.Lib.AppendStr
import Derived.ArgAppend
import Derived.Laws.IdiomCopy
import Derived.OrdersHeld
import Derived.Laws.BitsLemmas
import Derived.RowKit
import Derived.Test.YtpflopenjbealaaDoorWWords
import Derived.Test.YtpflopenjbealaaDoorWLast
import Derived.Test.YtpflopenjbealaaDoorWTab
import Derived.Test.YtpflopenjbealaaDoorWFour
import Derived.Test.YtpflopenjbealaaDoorWQPut
import Derived.Test.YtpflopenjbealaaDoorWApart
import Derived.Test.YtpflopenjbealaaDoorWArr
import Derived.Test.YtpflopenjbealaaDoorWZeros
import Derived.Test.YtpflopenjbealaaDoorWFoot
import Derived.Test.YtpflopenjbealaaDoorWKept
import Derived.Test.YtpflopenjbealaaDoorWShare
import Derived.Test.YtpflopenjbealaaDoorWN
import Derived.Test.YtpflopenjbealaaDoorWFootNe
import Derived.Test.YtpflopenjbealaaDoorWAt
import Derived.Test.YtpflopenjbealaaDoorWEqStruct
import Derived.Test.YtpflopenjbealaaDoorWRepsOne
import Derived.Test.YtpflopenjbealaaDoorWInv
import Derived.Test.YtpflopenjbealaaDoorWInvWords
import Derived.Test.YtpflopenjbealaaDoorWGuard
import Derived.Test.YtpflopenjbealaaDoorWNEv
import Derived.Test.YtpflopenjbealaaDoorWMore
namespace Go.Proofs.YtpflopenjbealaaDoor.PVoteShares
open Go.RowKit Go.Proofs.YtpflopenjbealaaDoorW.PrintWords Go.Proofs.YtpflopenjbealaaDoorW.PrintLast Go.Proofs.YtpflopenjbealaaDoorW.PrintMore
attribute [local go_sem] max2_int min2_int max_two min_two max_three min_three max_four min_four   -- for this text's walks alone
set_option linter.unusedVariables false
set_option linter.unusedSimpArgs false



def errW : Option Int → Value
  | none => .nilIface
  | some c => .iface 0 (.int .i64 c)
theorem errW_none : errW none = .nilIface := rfl
theorem errW_some (c : Int) : errW (some c) = .iface 0 (.int .i64 c) := rfl

theorem info4 : (Tryd.prog.info? 4).map (fun i => (i.zero, i.size, i.bytes)) = some (some (.bool false), 1, 1) := by kernel_rfl
-- the values' own types

end Go.Proofs.YtpflopenjbealaaDoor.PVoteShares
