-- written by a program of this session (wip/myprint.py) over the kit's printer
import Derived.Test.YtdibbcmfgdgdfaaProg
import Derived.Below
import Derived.Deep.Draws
import Derived.Deep.AppendLies
import Derived.Maps.AppendAt
import Derived.OwnWalk
import Derived.Laws.BytesArg
import Derived.Laws.MakeOwn
import Derived.Laws.OwnMore
import Derived.Deep.OwnRows
import Derived.Tactics
import Derived.Lib.ConvBytes
import Derived.Laws.Slices
import Derived.WalkKit
import Derived.KernelRfl
import Derived.RowKit3
import Derived.Deep.LoopGhost
import Derived.Deep.QuietTactic
import Derived.BigQuiet
import Derived.WideLaws
import Derived.Deep.DeepCutAuto
import Derived.Deep.CutBlock
import Derived.Deep.RegionHeld3
import Derived.Laws.Rows
import Derived.Lib.AppendStr
import Derived.ArgAppend
import Derived.Laws.IdiomCopy
import Derived.OrdersHeld
import Derived.Laws.BitsLemmas
import Derived.RowKit
import Derived.Test.YtdibbcmfgdgdfaaWWords
import Derived.Test.YtdibbcmfgdgdfaaWLast
import Derived.Test.YtdibbcmfgdgdfaaWTab
import Derived.Test.YtdibbcmfgdgdfaaWFour
import Derived.Test.YtdibbcmfgdgdfaaWQPut
import Derived.Test.YtdibbcmfgdgdfaaWApart
import Derived.Test.YtdibbcmfgdgdfaaWArr
import Derived.Test.YtdibbcmfgdgdfaaWZeros
import Derived.Test.YtdibbcmfgdgdfaaWFoot
import Derived.Test.YtdibbcmfgdgdfaaWKept
import Derived.Test.YtdibbcmfgdgdfaaWShare
import Derived.Test.YtdibbcmfgdgdfaaWN
import Derived.Test.YtdibbcmfgdgdfaaWFootNe
import Derived.Test.YtdibbcmfgdgdfaaWAt
import Derived.Test.YtdibbcmfgdgdfaaWEqStruct
import Derived.Test.YtdibbcmfgdgdfaaWRepsOne
import Derived.Test.YtdibbcmfgdgdfaaWInv
import Derived.Test.YtdibbcmfgdgdfaaWInvWords
import Derived.Test.YtdibbcmfgdgdfaaWGuard
import Derived.Test.YtdibbcmfgdgdfaaWNEv
import Derived.Test.YtdibbcmfgdgdfaaWMore
namespace Go.Proofs.Ytdibbcmfgdgdfaa.PLe
open Go.RowKit Go.Proofs.YtdibbcmfgdgdfaaW.PrintWords Go.Proofs.YtdibbcmfgdgdfaaW.PrintLast Go.Proofs.YtdibbcmfgdgdfaaW.PrintMore
attribute [local go_sem] max2_int min2_int max_two min_two max_three min_three max_four min_four   -- for this text's walks alone
set_option linter.unusedVariables false
set_option linter.unusedSimpArgs false



def errW : Option Int → Value
  | none => .nilIface
  | some c => .iface 0 (.int .i64 c)
theorem errW_none : errW none = .nilIface := rfl
theorem errW_some (c : Int) : errW (some c) = .iface 0 (.int .i64 c) := rfl

-- the values' own types

end Go.Proofs.Ytdibbcmfgdgdfaa.PLe
