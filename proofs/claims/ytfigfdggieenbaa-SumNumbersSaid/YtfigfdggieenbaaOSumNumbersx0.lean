/- Walks of the functions that SumNumbers reaches: each comes to what its Lean function tells. It began as the print's output; the contract of sum.Get is proved by own lines. -/
import Derived.Test.YtfigfdggieenbaaProg
import Derived.Below
import Derived.Deep.Draws
import Derived.Deep.AppendLies
import Derived.Maps.AppendAt
import Derived.OwnWalk
import Derived.Laws.BytesArg
import Derived.Laws.MakeOwn
import Derived.Laws.OwnMore
import Derived.Deep.OwnRows
import Derived.Tactics
import Derived.Lib.ConvBytes
import Derived.Laws.Slices
import Derived.WalkKit
import Derived.KernelRfl
import Derived.RowKit3
import Derived.Deep.LoopGhost
import Derived.Deep.QuietTactic
import Derived.BigQuiet
import Derived.WideLaws
import Derived.Deep.DeepCutAuto
import Derived.Deep.CutBlock
import Derived.Deep.RegionHeld3
import Derived.Laws.Rows
import Derived.Lib.AppendStr
import Derived.ArgAppend
import Derived.Laws.IdiomCopy
import Derived.OrdersHeld
import Derived.Laws.BitsLemmas
import Derived.RowKit
import Derived.Test.YtfigfdggieenbaaWWords
import Derived.Test.YtfigfdggieenbaaWLast
import Derived.Test.YtfigfdggieenbaaWTab
import Derived.Test.YtfigfdggieenbaaWFour
import Derived.Test.YtfigfdggieenbaaWQPut
import Derived.Test.YtfigfdggieenbaaWApart
import Derived.Test.YtfigfdggieenbaaWArr
import Derived.Test.YtfigfdggieenbaaWZeros
import Derived.Test.YtfigfdggieenbaaWFoot
import Derived.Test.YtfigfdggieenbaaWKept
import Derived.Test.YtfigfdggieenbaaWShare
import Derived.Test.YtfigfdggieenbaaWN
import Derived.Test.YtfigfdggieenbaaWFootNe
import Derived.Test.YtfigfdggieenbaaWAt
import Derived.Test.YtfigfdggieenbaaWEqStruct
import Derived.Test.YtfigfdggieenbaaWRepsOne
import Derived.Test.YtfigfdggieenbaaWInv
import Derived.Test.YtfigfdggieenbaaWInvWords
import Derived.Test.YtfigfdggieenbaaWGuard
import Derived.Test.YtfigfdggieenbaaWNEv
import Derived.Test.YtfigfdggieenbaaWMore
namespace Go.Proofs.Ytfigfdggieenbaa.OSumNumbers
open Go.RowKit Go.Proofs.YtfigfdggieenbaaW.PrintWords Go.Proofs.YtfigfdggieenbaaW.PrintLast Go.Proofs.YtfigfdggieenbaaW.PrintMore
attribute [local go_sem] max2_int min2_int max_two min_two max_three min_three max_four min_four   -- for this text's walks alone
set_option linter.unusedVariables false
set_option linter.unusedSimpArgs false



def errW : Option Int → Value
  | none => .nilIface
  | some c => .iface 0 (.int .i64 c)
theorem errW_none : errW none = .nilIface := rfl
theorem errW_some (c : Int) : errW (some c) = .iface 0 (.int .i64 c) := rfl

theorem info5 : (Try.prog.info? 5).map (fun i => (i.zero, i.size, i.bytes)) = some (some (.int .u8 0), 1, 1) := by kernel_rfl
-- the values' own types

end Go.Proofs.Ytfigfdggieenbaa.OSumNumbers
