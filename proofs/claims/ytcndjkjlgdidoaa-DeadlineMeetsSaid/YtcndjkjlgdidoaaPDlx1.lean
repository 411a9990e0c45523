-- written by a program of this session (wip/myprint.py) over the kit's printer
import Derived.Test.YtcndjkjlgdidoaaDx
import Derived.Test.YtcndjkjlgdidoaaPDlx0
namespace Go.Proofs.Ytcndjkjlgdidoaa.PDl
open Go.RowKit Go.Proofs.YtcndjkjlgdidoaaW.PrintWords Go.Proofs.YtcndjkjlgdidoaaW.PrintLast Go.Proofs.YtcndjkjlgdidoaaW.PrintMore
attribute [local go_sem] max2_int min2_int max_two min_two max_three min_three max_four min_four   -- for this text's walks alone
set_option linter.unusedVariables false
set_option linter.unusedSimpArgs false

/-! ### fuseelaw34_fixed: function 6 -/
def fuseelaw34_fixed.f  : Option (Bool) := some true
theorem fuseelaw34_fixed.calls  (r : Bool) (w : World) (h : fuseelaw34_fixed.f  = some r) :
    Calls Try.prog 6 #[] w fun e w' => e = .returned (.bool r) ∧ Below w.heap.size w w' := by
  obtain rfl := Option.some.inj h
  exact Da.fixed_any w

end Go.Proofs.Ytcndjkjlgdidoaa.PDl
