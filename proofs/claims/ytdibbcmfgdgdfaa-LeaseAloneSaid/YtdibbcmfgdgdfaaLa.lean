import Derived.Test.YtdibbcmfgdgdfaaPLex1
import Derived.Test.YtdibbcmfgdgdfaaRows
namespace Go.Proofs.Ytdibbcmfgdgdfaa.Le
open Go.RowKit Go.Proofs.YtdibbcmfgdgdfaaW.PrintWords Go.Proofs.YtdibbcmfgdgdfaaW.PrintLast Go.Proofs.YtdibbcmfgdgdfaaW.PrintMore
open PLe
attribute [local go_sem] max2_int min2_int max_two min_two max_three min_three max_four min_four
set_option linter.unusedVariables false
set_option linter.unusedSimpArgs false

structure Dk where
  grace : Int
  now : Int
  who : Nat → Int
  tok : Nat → Int
  en : Nat → Int
  giv : Nat → Bool
/-- the desk's cell o -/
def cellOf (s : Dk) (o : Nat) : Value :=
  if o = 0 then .int .i64 s.grace else if o = 1 then .int .i64 s.now
  else if o < 770 then (if (o - 2) % 3 = 0 then .int .i64 (s.who ((o - 2) / 3)) else if (o - 2) % 3 = 1 then .int .i64 (s.tok ((o - 2) / 3)) else .int .i64 (s.en ((o - 2) / 3)))
  else .bool (s.giv (o - 770))
def arr (s : Dk) : Array Value := Array.ofFn (n := 1026) fun i => cellOf s i
theorem arr_size (s : Dk) : (arr s).size = 1026 := by simp [arr]
theorem arr_get (s : Dk) {o : Nat} (h : o < 1026) : (arr s)[o]? = some (cellOf s o) := by simp [arr, h]
def new0 (gr : Int) : Dk := ⟨gr, -4611686018427387903, fun _ => 0, fun _ => 0, fun _ => 0, fun _ => false⟩
theorem built51 (gr : Int) : Try.prog.built 51 [(0, .int .i64 gr), (1, .int .i64 (-4611686018427387903))] = some (arr (new0 gr)) := by kernel_rfl
theorem wpList_built {P : Program} {w : World} {ops : Array Oper} {rest : List Oper} {o : Oper} {a : Act} {Q : Exit → Act → World → Prop} (hgd : o.guard = none) (t : TypeId) (parts : Array (Nat × Operand)) (cells : Array Value) (ho : o.op = .build t parts)
    (hc : P.built t (parts.map fun (i, x) => (i, a.eval x)).toList = some cells) (h : wpList P ops Q rest (a.put o.dst (.agg cells)) w) : wpList P ops Q (o :: rest) a w :=
  wpList_plain hgd fun K hK => by
    unfold Oper.wp execOp
    simp only [ho, Sem.run_bind, run_build w t _ cells hc, Result.andThen_ok]
    exact hK _ _ h
end Go.Proofs.Ytdibbcmfgdgdfaa.Le
