-- written by a program of this session (wip/myprint.py) over the kit's printer
import Derived.Test.YtfpheadbcemmiaaProg
import Derived.Below
import Derived.Deep.Draws
import Derived.Deep.AppendLies
import Derived.Maps.AppendAt
import Derived.OwnWalk
import Derived.Laws.BytesArg
import Derived.Laws.MakeOwn
import Derived.Laws.OwnMore
import Derived.Deep.OwnRows
import Derived.Tactics
import Derived.Lib.ConvBytes
import Derived.Laws.Slices
import Derived.WalkKit
import Derived.KernelRfl
import Derived.RowKit3
import Derived.Deep.LoopGhost
import Derived.Deep.QuietTactic
import Derived.BigQuiet
import Derived.WideLaws
import Derived.Deep.DeepCutAuto
import Derived.Deep.CutBlock
import Derived.Deep.RegionHeld3
import Derived.Laws.Rows
import Derived.Lib.AppendStr
import Derived.ArgAppend
import Derived.Laws.IdiomCopy
import Derived.OrdersHeld
import Derived.Laws.BitsLemmas
import Derived.RowKit
import Derived.Test.YtfpheadbcemmiaaWWords
import Derived.Test.YtfpheadbcemmiaaWLast
import Derived.Test.YtfpheadbcemmiaaWTab
import Derived.Test.YtfpheadbcemmiaaWFour
import Derived.Test.YtfpheadbcemmiaaWQPut
import Derived.Test.YtfpheadbcemmiaaWApart
import Derived.Test.YtfpheadbcemmiaaWArr
import Derived.Test.YtfpheadbcemmiaaWZeros
import Derived.Test.YtfpheadbcemmiaaWFoot
import Derived.Test.YtfpheadbcemmiaaWKept
import Derived.Test.YtfpheadbcemmiaaWShare
import Derived.Test.YtfpheadbcemmiaaWN
import Derived.Test.YtfpheadbcemmiaaWFootNe
import Derived.Test.YtfpheadbcemmiaaWAt
import Derived.Test.YtfpheadbcemmiaaWEqStruct
import Derived.Test.YtfpheadbcemmiaaWRepsOne
import Derived.Test.YtfpheadbcemmiaaWInv
import Derived.Test.YtfpheadbcemmiaaWInvWords
import Derived.Test.YtfpheadbcemmiaaWGuard
import Derived.Test.YtfpheadbcemmiaaWNEv
import Derived.Test.YtfpheadbcemmiaaWMore
namespace Go.Proofs.Ytfpheadbcemmiaa.PSc
open Go.RowKit Go.Proofs.YtfpheadbcemmiaaW.PrintWords Go.Proofs.YtfpheadbcemmiaaW.PrintLast Go.Proofs.YtfpheadbcemmiaaW.PrintMore
attribute [local go_sem] max2_int min2_int max_two min_two max_three min_three max_four min_four   -- for this text's walks alone
set_option linter.unusedVariables false
set_option linter.unusedSimpArgs false



def errW : Option Int → Value
  | none => .nilIface
  | some c => .iface 0 (.int .i64 c)
theorem errW_none : errW none = .nilIface := rfl
theorem errW_some (c : Int) : errW (some c) = .iface 0 (.int .i64 c) := rfl

theorem info3 : (Try.prog.info? 3).map (fun i => (i.zero, i.size, i.bytes)) = some (some (.int .i64 0), 1, 8) := by kernel_rfl
-- the values' own types

end Go.Proofs.Ytfpheadbcemmiaa.PSc
