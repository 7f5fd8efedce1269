-- Printed for this claim by the session's own driver (xprint.py) out of the translation; Lean checks it.
import Derived.Test.YtdjpelcdijpihaaProg
import Derived.Below
import Derived.Deep.Draws
import Derived.Deep.AppendLies
import Derived.Maps.AppendAt
import Derived.OwnWalk
import Derived.Laws.BytesArg
import Derived.Laws.MakeOwn
import Derived.Laws.OwnMore
import Derived.Deep.OwnRows
import Derived.Tactics
import Derived.Lib.ConvBytes
import Derived.Laws.Slices
import Derived.WalkKit
import Derived.KernelRfl
import Derived.RowKit3
import Derived.Deep.LoopGhost
import Derived.Deep.QuietTactic
import Derived.BigQuiet
import Derived.WideLaws
import Derived.Deep.DeepCutAuto
import Derived.Deep.CutBlock
import Derived.Deep.RegionHeld3
import Derived.Laws.Rows
import Derived.Lib.AppendStr
import Derived.ArgAppend
import Derived.Laws.IdiomCopy
import Derived.OrdersHeld
import Derived.Laws.BitsLemmas
import Derived.RowKit
import Derived.Test.YtdjpelcdijpihaaWWords
import Derived.Test.YtdjpelcdijpihaaWLast
import Derived.Test.YtdjpelcdijpihaaWTab
import Derived.Test.YtdjpelcdijpihaaWFour
import Derived.Test.YtdjpelcdijpihaaWQPut
import Derived.Test.YtdjpelcdijpihaaWApart
import Derived.Test.YtdjpelcdijpihaaWArr
import Derived.Test.YtdjpelcdijpihaaWZeros
import Derived.Test.YtdjpelcdijpihaaWFoot
import Derived.Test.YtdjpelcdijpihaaWKept
import Derived.Test.YtdjpelcdijpihaaWShare
import Derived.Test.YtdjpelcdijpihaaWN
import Derived.Test.YtdjpelcdijpihaaWFootNe
import Derived.Test.YtdjpelcdijpihaaWAt
import Derived.Test.YtdjpelcdijpihaaWEqStruct
import Derived.Test.YtdjpelcdijpihaaWRepsOne
import Derived.Test.YtdjpelcdijpihaaWInv
import Derived.Test.YtdjpelcdijpihaaWInvWords
import Derived.Test.YtdjpelcdijpihaaWGuard
import Derived.Test.YtdjpelcdijpihaaWNEv
import Derived.Test.YtdjpelcdijpihaaWMore
namespace Go.Proofs.Ytdjpelcdijpihaa.Print
open Go.RowKit Go.Proofs.YtdjpelcdijpihaaW.PrintWords Go.Proofs.YtdjpelcdijpihaaW.PrintLast Go.Proofs.YtdjpelcdijpihaaW.PrintMore
attribute [local go_sem] max2_int min2_int max_two min_two max_three min_three max_four min_four   -- for this text's walks alone
set_option linter.unusedVariables false
set_option linter.unusedSimpArgs false



def errW : Option Int → Value
  | none => .nilIface
  | some c => .iface 0 (.int .i64 c)
theorem errW_none : errW none = .nilIface := rfl
theorem errW_some (c : Int) : errW (some c) = .iface 0 (.int .i64 c) := rfl

theorem info5 : (Try.prog.info? 5).map (fun i => (i.zero, i.size, i.bytes)) = some (some (.int .u8 0), 1, 1) := by kernel_rfl
-- the values' own types

end Go.Proofs.Ytdjpelcdijpihaa.Print
