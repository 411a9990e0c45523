import Derived.Test.YtcndjkjlgdidoaaFx
namespace Go.Proofs.Ytcndjkjlgdidoaa.Da
open Go.RowKit Go.Proofs.YtcndjkjlgdidoaaW.PrintWords PDl
theorem fx_true : fxd.f 20 = some true := by decide +kernel
theorem fixed_any (w : World) : Calls Try.prog 6 #[] w fun e w' => e = .returned (.bool true) ∧ Below w.heap.size w w' := fxd.calls 20 true rfl w fx_true
end Go.Proofs.Ytcndjkjlgdidoaa.Da
