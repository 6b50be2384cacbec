import Derived.Test.YtpflopenjbealaaProg
import Derived.Below
import Derived.Deep.Draws
import Derived.Deep.AppendLies
import Derived.Maps.AppendAt
import Derived.OwnWalk
import Derived.Laws.BytesArg
import Derived.Laws.MakeOwn
import Derived.Laws.OwnMore
import Derived.Deep.OwnRows
import Derived.Tactics
import Derived.Lib.ConvBytes
import Derived.Laws.Slices
import Derived.WalkKit
import Derived.KernelRfl
import Derived.RowKit3
import Derived.Deep.LoopGhost
import Derived.Deep.QuietTactic
import Derived.BigQuiet
import Derived.WideLaws
import Derived.Deep.DeepCutAuto
import Derived.Deep.CutBlock
import Derived.Deep.RegionHeld3
import Derived.Laws.Rows
import Derived.Lib.AppendStr
import Derived.ArgAppend
import Derived.Laws.IdiomCopy
import Derived.OrdersHeld
import Derived.Laws.BitsLemmas
import Derived.RowKit
import Derived.Test.YtpflopenjbealaaWWords
import Derived.Test.YtpflopenjbealaaWLast
import Derived.Test.YtpflopenjbealaaWTab
import Derived.Test.YtpflopenjbealaaWFour
import Derived.Test.YtpflopenjbealaaWQPut
import Derived.Test.YtpflopenjbealaaWApart
import Derived.Test.YtpflopenjbealaaWArr
import Derived.Test.YtpflopenjbealaaWZeros
import Derived.Test.YtpflopenjbealaaWFoot
import Derived.Test.YtpflopenjbealaaWKept
import Derived.Test.YtpflopenjbealaaWShare
import Derived.Test.YtpflopenjbealaaWN
import Derived.Test.YtpflopenjbealaaWFootNe
import Derived.Test.YtpflopenjbealaaWAt
import Derived.Test.YtpflopenjbealaaWEqStruct
import Derived.Test.YtpflopenjbealaaWRepsOne
import Derived.Test.YtpflopenjbealaaWInv
import Derived.Test.YtpflopenjbealaaWInvWords
import Derived.Test.YtpflopenjbealaaWGuard
import Derived.Test.YtpflopenjbealaaWNEv
import Derived.Test.YtpflopenjbealaaWMore
namespace Go.Proofs.Ytpflopenjbealaa.PVoteSets
open Go.RowKit Go.Proofs.YtpflopenjbealaaW.PrintWords Go.Proofs.YtpflopenjbealaaW.PrintLast Go.Proofs.YtpflopenjbealaaW.PrintMore
attribute [local go_sem] max2_int min2_int max_two min_two max_three min_three max_four min_four   -- for this text's walks alone
set_option linter.unusedVariables false
set_option linter.unusedSimpArgs false



def errW : Option Int → Value
  | none => .nilIface
  | some c => .iface 0 (.int .i64 c)
theorem errW_none : errW none = .nilIface := rfl
theorem errW_some (c : Int) : errW (some c) = .iface 0 (.int .i64 c) := rfl

theorem info4 : (Try.prog.info? 4).map (fun i => (i.zero, i.size, i.bytes)) = some (some (.bool false), 1, 1) := by kernel_rfl
-- the values' own types

end Go.Proofs.Ytpflopenjbealaa.PVoteSets
