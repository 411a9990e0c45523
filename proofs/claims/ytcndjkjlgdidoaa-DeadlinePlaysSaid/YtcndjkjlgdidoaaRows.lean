/-
  No cell of these rows narrows 'for every input' (looked for: loops, veiled, ifaces, maps, wideKeys, modest, calm, conditions, laid).
  DERIVED. THE GIVEN ROWS OF THIS SEAT. 3 by the template 'for every input the law returns true; each argument reads behind the call as it read before'; 0 by the template 'total and deterministic' (their statements: YtcndjkjlgdidoaaTotals.lean).
  GIVEN WITH THE SEED: the statements are not yours to turn. If you find one false, say at which input.
  Laid BY PROGRAM, IN A SANDBOX (cutbox-rows.mjs): the forced cells as the released guide's own fill.sh prints them over the translation 775775b8c813a41f… (all of the seat's roots in one cut). By AI agents, Wed Nov 11 2026. No macro, syntax, notation, axiom, sorry.
-/
import Derived.Test.YtcndjkjlgdidoaaChecked
import GoSem.Claim
import GoSem.ClaimJoined
import GoSem.ClaimMapViews
import Derived.JoinedTies
import Derived.KernelRfl
namespace Go.Proofs.Ytcndjkjlgdidoaa
/- THE CELL 'sum', in the pinned program and in every row, IS THE sha256 OF THE DUMP (.gsa) THAT YtcndjkjlgdidoaaProg.lean LOADS. Nothing in Lean hashes anything: it is a label: what it is worth is what the hold of that sum in a sandbox is worth. -/
noncomputable def Try.pinned : Pinned := { name := "ytcndjkjlgdidoaa", sum := "775775b8c813a41f0aad23f8311ad5a562872fe503802f584e5e8c6cc2e66270", checked := Try.checked }
namespace Rows
def none {H : Type} : Left H := { results := [], args := [] }

/-- 'fuseelaw34.DeadlinePlays': WHATEVER THE INPUT: true; the input reads as it did. -/
def deadlinePlaysSpec : ChangeSpec := { name := "deadlinePlays", fn := fun _ => fun
  | [d1, d2] => { results := [.lit (.bool true)], args := [d1, d2] }
  | _ => none }
def deadlinePlaysRow : OpenClaim := { program := "ytcndjkjlgdidoaa", sum := "775775b8c813a41f0aad23f8311ad5a562872fe503802f584e5e8c6cc2e66270", func := "fusee/fuseelaw34.DeadlinePlays", spec := "deadlinePlays", apart := false }
def DeadlinePlaysSaid : Prop := deadlinePlaysRow.holds Try.pinned (OpenSpec.ofChange deadlinePlaysSpec)

/-- ITS FALSE NEIGHBOUR: 'it returns false'. Refute it at one input. -/
def deadlinePlaysWrong : ChangeSpec := { name := "deadlinePlays", fn := fun _ => fun
  | [d1, d2] => { results := [.lit (.bool false)], args := [d1, d2] }
  | _ => none }
def DeadlinePlaysWrongFalsely : Prop := deadlinePlaysRow.holds Try.pinned (OpenSpec.ofChange deadlinePlaysWrong)

/-- 'fuseelaw34.DeadlineLoads': WHATEVER THE INPUT: true; the input reads as it did. -/
def deadlineLoadsSpec : ChangeSpec := { name := "deadlineLoads", fn := fun _ => fun
  | [d] => { results := [.lit (.bool true)], args := [d] }
  | _ => none }
def deadlineLoadsRow : OpenClaim := { program := "ytcndjkjlgdidoaa", sum := "775775b8c813a41f0aad23f8311ad5a562872fe503802f584e5e8c6cc2e66270", func := "fusee/fuseelaw34.DeadlineLoads", spec := "deadlineLoads", apart := false }
def DeadlineLoadsSaid : Prop := deadlineLoadsRow.holds Try.pinned (OpenSpec.ofChange deadlineLoadsSpec)

/-- ITS FALSE NEIGHBOUR: 'it returns false'. Refute it at one input. -/
def deadlineLoadsWrong : ChangeSpec := { name := "deadlineLoads", fn := fun _ => fun
  | [d] => { results := [.lit (.bool false)], args := [d] }
  | _ => none }
def DeadlineLoadsWrongFalsely : Prop := deadlineLoadsRow.holds Try.pinned (OpenSpec.ofChange deadlineLoadsWrong)

/-- 'fuseelaw34.DeadlineMeets': WHATEVER THE INPUT: true; the input reads as it did. -/
def deadlineMeetsSpec : ChangeSpec := { name := "deadlineMeets", fn := fun _ => fun
  | [d1, d2] => { results := [.lit (.bool true)], args := [d1, d2] }
  | _ => none }
def deadlineMeetsRow : OpenClaim := { program := "ytcndjkjlgdidoaa", sum := "775775b8c813a41f0aad23f8311ad5a562872fe503802f584e5e8c6cc2e66270", func := "fusee/fuseelaw34.DeadlineMeets", spec := "deadlineMeets", apart := false }
def DeadlineMeetsSaid : Prop := deadlineMeetsRow.holds Try.pinned (OpenSpec.ofChange deadlineMeetsSpec)

/-- ITS FALSE NEIGHBOUR: 'it returns false'. Refute it at one input. -/
def deadlineMeetsWrong : ChangeSpec := { name := "deadlineMeets", fn := fun _ => fun
  | [d1, d2] => { results := [.lit (.bool false)], args := [d1, d2] }
  | _ => none }
def DeadlineMeetsWrongFalsely : Prop := deadlineMeetsRow.holds Try.pinned (OpenSpec.ofChange deadlineMeetsWrong)

/- THE SECOND FORM. 'bulk': how many values and letters a reading holds, each counted each time it is reached (what is shared counts as often as it is met; a slice's spare places count too). A statement '..UptoSaid' is the law's where the arguments, and the package variables that the reading takes, are together of bulk at most 1048576: NARROWER than '..Said'. Prove '..Said' where nothing that the law and all that it calls make is longer than what came in: it says more and counts as full. Else prove '..UptoSaid'. A law counts once. -/
mutual
def uptoBulk {H : Type} : DataW H → Nat
  | .lit (.string bytes) => bytes.length + 1
  | .lit _ => 1
  | .nil => 1
  | .ptr d => uptoBulk d + 1
  | .slice elems spare => uptoBulkAll elems + uptoBulkAll spare + 1
  | .agg parts => uptoBulkAll parts + 1
  | .iface _ d => uptoBulk d + 1
  | .map entries => uptoBulkEntries entries + 1
  | .held _ => 1
def uptoBulkAll {H : Type} : List (DataW H) → Nat
  | [] => 0
  | d :: r => uptoBulk d + uptoBulkAll r
def uptoBulkEntries {H : Type} : List (Lit × DataW H) → Nat
  | [] => 0
  | x :: r => uptoBulkEntry x + uptoBulkEntries r
def uptoBulkEntry {H : Type} : Lit × DataW H → Nat
  | (.string bytes, d) => bytes.length + uptoBulk d + 1
  | (_, d) => uptoBulk d + 1
 end
def uptoSmall : (H : Type) → List (DataW H) → Bool := fun _ ds => decide (uptoBulkAll ds ≤ 1048576)
def OpenSpec.upto (s : _root_.Go.ChangeSpec) : _root_.Go.OpenSpec := { _root_.Go.OpenSpec.ofChange s with cond := some uptoSmall }

/-- 'fuseelaw34.DeadlinePlays', WHERE WHAT IT READS IS OF BULK AT MOST 1048576: true; the input reads as it did. -/
def deadlinePlaysUptoRow : OpenClaim := { program := "ytcndjkjlgdidoaa", sum := "775775b8c813a41f0aad23f8311ad5a562872fe503802f584e5e8c6cc2e66270", func := "fusee/fuseelaw34.DeadlinePlays", spec := "deadlinePlays", apart := false, narrowed := true }
def DeadlinePlaysUptoSaid : Prop := deadlinePlaysUptoRow.holds Try.pinned (OpenSpec.upto deadlinePlaysSpec)

/-- 'fuseelaw34.DeadlineLoads', WHERE WHAT IT READS IS OF BULK AT MOST 1048576: true; the input reads as it did. -/
def deadlineLoadsUptoRow : OpenClaim := { program := "ytcndjkjlgdidoaa", sum := "775775b8c813a41f0aad23f8311ad5a562872fe503802f584e5e8c6cc2e66270", func := "fusee/fuseelaw34.DeadlineLoads", spec := "deadlineLoads", apart := false, narrowed := true }
def DeadlineLoadsUptoSaid : Prop := deadlineLoadsUptoRow.holds Try.pinned (OpenSpec.upto deadlineLoadsSpec)

/-- 'fuseelaw34.DeadlineMeets', WHERE WHAT IT READS IS OF BULK AT MOST 1048576: true; the input reads as it did. -/
def deadlineMeetsUptoRow : OpenClaim := { program := "ytcndjkjlgdidoaa", sum := "775775b8c813a41f0aad23f8311ad5a562872fe503802f584e5e8c6cc2e66270", func := "fusee/fuseelaw34.DeadlineMeets", spec := "deadlineMeets", apart := false, narrowed := true }
def DeadlineMeetsUptoSaid : Prop := deadlineMeetsUptoRow.holds Try.pinned (OpenSpec.upto deadlineMeetsSpec)

end Rows
end Go.Proofs.Ytcndjkjlgdidoaa
