-- written by a program of this session (wip/myprint.py) over the kit's printer
import Derived.Test.YtfpheadbcemmiaaScM
import Derived.Test.YtfpheadbcemmiaaPScx0
namespace Go.Proofs.Ytfpheadbcemmiaa.PSc
open Go.RowKit Go.Proofs.YtfpheadbcemmiaaW.PrintWords Go.Proofs.YtfpheadbcemmiaaW.PrintLast Go.Proofs.YtfpheadbcemmiaaW.PrintMore
attribute [local go_sem] max2_int min2_int max_two min_two max_three min_three max_four min_four   -- for this text's walks alone
set_option linter.unusedVariables false
set_option linter.unusedSimpArgs false

/-! ### scale_Make: function 13 -/
def scale_Make.f (a0 : Int) : Option (Int × Int × Bool) := some ((Sc.makeP a0).1, (Sc.makeP a0).2.1, (Sc.makeP a0).2.2)
theorem scale_Make.calls (a0 : Int) (r1 : Int) (r2 : Int) (r3 : Bool) (w : World) (h : scale_Make.f a0 = some (r1, r2, r3)) :
    Calls Try.prog 13 #[.int .i64 a0] w fun e w' => e = .returned (.tuple #[.agg #[.int .i64 r1, .int .i64 r2], .bool r3]) ∧ Below w.heap.size w w' := by
  unfold scale_Make.f at h
  have h' := Option.some.inj h
  obtain ⟨rfl, h2⟩ := Prod.mk.injEq .. ▸ h'
  obtain ⟨rfl, rfl⟩ := Prod.mk.injEq .. ▸ h2
  exact Sc.make_any a0 w

end Go.Proofs.Ytfpheadbcemmiaa.PSc
