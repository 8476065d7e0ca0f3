-- PRINTED BY print.sh 35421559b90ae4d0a3588c463048766b98c2df88dd9212a6774a882060cdf62d: not written by this session
import Derived.Test.YtejplbeddcpmeaaProg
import Derived.Below
import Derived.Deep.Draws
import Derived.Deep.AppendLies
import Derived.Maps.AppendAt
import Derived.OwnWalk
import Derived.Laws.BytesArg
import Derived.Laws.MakeOwn
import Derived.Laws.OwnMore
import Derived.Deep.OwnRows
import Derived.Tactics
import Derived.Lib.ConvBytes
import Derived.Laws.Slices
import Derived.WalkKit
import Derived.KernelRfl
import Derived.RowKit3
import Derived.Deep.LoopGhost
import Derived.Deep.QuietTactic
import Derived.BigQuiet
import Derived.WideLaws
import Derived.Deep.DeepCutAuto
import Derived.Deep.CutBlock
import Derived.Deep.RegionHeld3
import Derived.Laws.Rows
import Derived.Lib.AppendStr
import Derived.ArgAppend
import Derived.Laws.IdiomCopy
import Derived.OrdersHeld
import Derived.Laws.BitsLemmas
import Derived.RowKit
import Derived.Test.YtejplbeddcpmeaaWWords
import Derived.Test.YtejplbeddcpmeaaWLast
import Derived.Test.YtejplbeddcpmeaaWTab
import Derived.Test.YtejplbeddcpmeaaWFour
import Derived.Test.YtejplbeddcpmeaaWQPut
import Derived.Test.YtejplbeddcpmeaaWApart
import Derived.Test.YtejplbeddcpmeaaWArr
import Derived.Test.YtejplbeddcpmeaaWZeros
import Derived.Test.YtejplbeddcpmeaaWFoot
import Derived.Test.YtejplbeddcpmeaaWKept
import Derived.Test.YtejplbeddcpmeaaWShare
import Derived.Test.YtejplbeddcpmeaaWN
import Derived.Test.YtejplbeddcpmeaaWFootNe
import Derived.Test.YtejplbeddcpmeaaWAt
import Derived.Test.YtejplbeddcpmeaaWEqStruct
import Derived.Test.YtejplbeddcpmeaaWRepsOne
import Derived.Test.YtejplbeddcpmeaaWInv
import Derived.Test.YtejplbeddcpmeaaWInvWords
import Derived.Test.YtejplbeddcpmeaaWGuard
import Derived.Test.YtejplbeddcpmeaaWNEv
import Derived.Test.YtejplbeddcpmeaaWMore
namespace Go.Proofs.Ytejplbeddcpmeaa.PRingTurns
open Go.RowKit Go.Proofs.YtejplbeddcpmeaaW.PrintWords Go.Proofs.YtejplbeddcpmeaaW.PrintLast Go.Proofs.YtejplbeddcpmeaaW.PrintMore
attribute [local go_sem] max2_int min2_int max_two min_two max_three min_three max_four min_four   -- for this text's walks alone
set_option linter.unusedVariables false
set_option linter.unusedSimpArgs false



def errW : Option Int → Value
  | none => .nilIface
  | some c => .iface 0 (.int .i64 c)
theorem errW_none : errW none = .nilIface := rfl
theorem errW_some (c : Int) : errW (some c) = .iface 0 (.int .i64 c) := rfl

theorem info3 : (Try.prog.info? 3).map (fun i => (i.zero, i.size, i.bytes)) = some (some (.int .i64 0), 1, 8) := by kernel_rfl
-- the values' own types

end Go.Proofs.Ytejplbeddcpmeaa.PRingTurns
