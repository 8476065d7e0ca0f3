-- PRINTED BY print.sh 35421559b90ae4d0a3588c463048766b98c2df88dd9212a6774a882060cdf62d: not written by this session
import Derived.Test.YtigaajkophmhoaaProg
import Derived.Below
import Derived.Deep.Draws
import Derived.Deep.AppendLies
import Derived.Maps.AppendAt
import Derived.OwnWalk
import Derived.Laws.BytesArg
import Derived.Laws.MakeOwn
import Derived.Laws.OwnMore
import Derived.Deep.OwnRows
import Derived.Tactics
import Derived.Lib.ConvBytes
import Derived.Laws.Slices
import Derived.WalkKit
import Derived.KernelRfl
import Derived.RowKit3
import Derived.Deep.LoopGhost
import Derived.Deep.QuietTactic
import Derived.BigQuiet
import Derived.WideLaws
import Derived.Deep.DeepCutAuto
import Derived.Deep.CutBlock
import Derived.Deep.RegionHeld3
import Derived.Laws.Rows
import Derived.Lib.AppendStr
import Derived.ArgAppend
import Derived.Laws.IdiomCopy
import Derived.OrdersHeld
import Derived.Laws.BitsLemmas
import Derived.RowKit
import Derived.Test.YtigaajkophmhoaaWWords
import Derived.Test.YtigaajkophmhoaaWLast
import Derived.Test.YtigaajkophmhoaaWTab
import Derived.Test.YtigaajkophmhoaaWFour
import Derived.Test.YtigaajkophmhoaaWQPut
import Derived.Test.YtigaajkophmhoaaWApart
import Derived.Test.YtigaajkophmhoaaWArr
import Derived.Test.YtigaajkophmhoaaWZeros
import Derived.Test.YtigaajkophmhoaaWFoot
import Derived.Test.YtigaajkophmhoaaWKept
import Derived.Test.YtigaajkophmhoaaWShare
import Derived.Test.YtigaajkophmhoaaWN
import Derived.Test.YtigaajkophmhoaaWFootNe
import Derived.Test.YtigaajkophmhoaaWAt
import Derived.Test.YtigaajkophmhoaaWEqStruct
import Derived.Test.YtigaajkophmhoaaWRepsOne
import Derived.Test.YtigaajkophmhoaaWInv
import Derived.Test.YtigaajkophmhoaaWInvWords
import Derived.Test.YtigaajkophmhoaaWGuard
import Derived.Test.YtigaajkophmhoaaWNEv
import Derived.Test.YtigaajkophmhoaaWMore
namespace Go.Proofs.Ytigaajkophmhoaa.PTicksOldest
open Go.RowKit Go.Proofs.YtigaajkophmhoaaW.PrintWords Go.Proofs.YtigaajkophmhoaaW.PrintLast Go.Proofs.YtigaajkophmhoaaW.PrintMore
attribute [local go_sem] max2_int min2_int max_two min_two max_three min_three max_four min_four   -- for this text's walks alone
set_option linter.unusedVariables false
set_option linter.unusedSimpArgs false



def errW : Option Int → Value
  | none => .nilIface
  | some c => .iface 0 (.int .i64 c)
theorem errW_none : errW none = .nilIface := rfl
theorem errW_some (c : Int) : errW (some c) = .iface 0 (.int .i64 c) := rfl

theorem info22 : (Try.prog.info? 22).map (fun i => (i.zero, i.size, i.bytes)) = some (some (.int .u32 0), 1, 4) := by kernel_rfl
-- the values' own types

end Go.Proofs.Ytigaajkophmhoaa.PTicksOldest
