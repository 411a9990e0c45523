-- written by a program of this session (wip/myprint.py) over the kit's printer
import Derived.Test.YtcndjkjlgdidoaaDe
import Derived.Test.YtcndjkjlgdidoaaPDlx0
namespace Go.Proofs.Ytcndjkjlgdidoaa.PDl
open Go.RowKit Go.Proofs.YtcndjkjlgdidoaaW.PrintWords Go.Proofs.YtcndjkjlgdidoaaW.PrintLast Go.Proofs.YtcndjkjlgdidoaaW.PrintMore
attribute [local go_sem] max2_int min2_int max_two min_two max_three min_three max_four min_four   -- for this text's walks alone
set_option linter.unusedVariables false
set_option linter.unusedSimpArgs false

/-! ### deadline_Play: function 7 -/
def deadline_Play.f (l0 : List (S35)) (a1 : Int) : Option (List Int × List Int × Int) := Da.playO l0 a1
theorem deadline_Play.calls (A0 : Option Addr) (c0 : Nat) (l0 : List (S35)) (a1 : Int) (r1 : List Int) (r2 : List Int) (r3 : Int) (w : World) (hr0 : Kd.C k35 w A0 l0.length l0) (hc0 : l0.length ≤ c0) (h : deadline_Play.f l0 a1 = some (r1, r2, r3)) :
    Calls Try.prog 7 #[.slice A0 l0.length c0, .int .i64 a1] w fun e w' => ∃ v0_ v1_ : Value, e = .returned (.agg #[v0_, v1_, .int .i64 r3]) ∧ Kd.R (Kd.int .i64) 3 w' w.heap.size (fun k_ => some k_ ≠ (v1_ : Value).ownBlock) v0_ r1 ∧ Kd.R (Kd.int .i64) 3 w' w.heap.size (fun k_ => some k_ ≠ (v0_ : Value).ownBlock) v1_ r2 ∧ Below w.heap.size w w' := by
  exact Da.play_any A0 c0 l0 a1 r1 r2 r3 w hr0 hc0 h

end Go.Proofs.Ytcndjkjlgdidoaa.PDl
