/- Plain Lean functions of what a law comes to, and their contracts: the machine's call does what they say; no condition. Written by wip/myprint.sh over the kit's print.py. -/
import Derived.Test.YtfgdjljbdghdgaaProg
import Derived.WalkSpells
import Derived.Lib.SliceRun
import Derived.OpenShut
import Derived.Below
import Derived.Deep.Draws
import Derived.Deep.AppendLies
import Derived.Maps.AppendAt
import Derived.OwnWalk
import Derived.Laws.BytesArg
import Derived.Laws.MakeOwn
import Derived.Laws.OwnMore
import Derived.Deep.OwnRows
import Derived.Tactics
import Derived.Lib.ConvBytes
import Derived.Laws.Slices
import Derived.WalkKit
import Derived.KernelRfl
import Derived.RowKit3
import Derived.Deep.LoopGhost
import Derived.Deep.QuietTactic
import Derived.BigQuiet
import Derived.WideLaws
import Derived.Deep.DeepCutAuto
import Derived.Deep.CutBlock
import Derived.Deep.RegionHeld3
import Derived.Laws.Rows
import Derived.Lib.AppendStr
import Derived.ArgAppend
import Derived.Laws.IdiomCopy
import Derived.OrdersHeld
import Derived.Laws.BitsLemmas
import Derived.RowKit
import Derived.Test.YtfgdjljbdghdgaaWWords
import Derived.Test.YtfgdjljbdghdgaaWLast
import Derived.Test.YtfgdjljbdghdgaaWTab
import Derived.Test.YtfgdjljbdghdgaaWFour
import Derived.Test.YtfgdjljbdghdgaaWQPut
import Derived.Test.YtfgdjljbdghdgaaWApart
import Derived.Test.YtfgdjljbdghdgaaWArr
import Derived.Test.YtfgdjljbdghdgaaWZeros
import Derived.Test.YtfgdjljbdghdgaaWFoot
import Derived.Test.YtfgdjljbdghdgaaWKept
import Derived.Test.YtfgdjljbdghdgaaWShare
import Derived.Test.YtfgdjljbdghdgaaWN
import Derived.Test.YtfgdjljbdghdgaaWFootNe
import Derived.Test.YtfgdjljbdghdgaaWAt
import Derived.Test.YtfgdjljbdghdgaaWEqStruct
import Derived.Test.YtfgdjljbdghdgaaWRepsOne
import Derived.Test.YtfgdjljbdghdgaaWInv
import Derived.Test.YtfgdjljbdghdgaaWInvWords
import Derived.Test.YtfgdjljbdghdgaaWGuard
import Derived.Test.YtfgdjljbdghdgaaWNEv
import Derived.Test.YtfgdjljbdghdgaaWMore
namespace Go.Proofs.Ytfgdjljbdghdgaa.PTurn
open Go.RowKit Go.Proofs.YtfgdjljbdghdgaaW.PrintWords Go.Proofs.YtfgdjljbdghdgaaW.PrintLast Go.Proofs.YtfgdjljbdghdgaaW.PrintMore
attribute [local go_sem] max2_int min2_int max_two min_two max_three min_three max_four min_four   -- for this text's walks alone
set_option linter.unusedVariables false
set_option linter.unusedSimpArgs false



theorem calls_args {P : Program} {f : FuncId} {w : World} {K : Ending → World → Prop} (F : Nat → Array Value) {n m : Nat} (e : n = m) (c : Calls P f (F n) w K) : Calls P f (F m) w K := e ▸ c
def errW : Option Int → Value
  | none => .nilIface
  | some c => .iface 0 (.int .i64 c)
theorem errW_none : errW none = .nilIface := rfl
theorem errW_some (c : Int) : errW (some c) = .iface 0 (.int .i64 c) := rfl

theorem info3 : (Try.prog.info? 3).map (fun i => (i.zero, i.size, i.bytes)) = some (some (.int .i64 0), 1, 8) := by kernel_rfl
-- the values' own types

end Go.Proofs.Ytfgdjljbdghdgaa.PTurn
