/- Structs of numbers and truths, compared. Conditions: none. -/
import Derived.Test.YtdibbcmfgdgdfaaS9
import Derived.Laws.StructEq
set_option linter.unnecessarySimpa false
set_option linter.unusedVariables false
set_option linter.unusedSimpArgs false
namespace Go.Sp
open Go

def simpleF (P : Program) (f : Field) : Bool := f.name != "_" && (match P.underlying f.type with | some (.int _) => true | some .bool => true | _ => false)
def eqAll (P : Program) (xs ys : Array Value) : List Field → Option Bool
  | [] => some true
  | f :: fs => match P.underlying f.type, xs[f.offset]?, ys[f.offset]? with
    | some (.int _), some (.int k a), some (.int k' b) => if k = k' then (eqAll P xs ys fs).map (fun r => a == b && r) else none
    | some .bool, some (.bool a), some (.bool b) => (eqAll P xs ys fs).map (fun r => a == b && r)
    | _, _, _ => none
theorem run_part1 {P : Program} {t : TypeId} {cs : Array Value} {off : Nat} {v : Value} {w : World} (ht : (∃ k, P.underlying t = some (.int k)) ∨ P.underlying t = some .bool) (hc : cs[off]? = some v) : (part t cs off).run P w = .ok v w := by
  rcases ht with ⟨k, h⟩ | h <;> simp [part, isAgg, run_underlying h, hc]
theorem run_eqFields {P : Program} {xs ys : Array Value} {d : Nat} : ∀ (fs : List Field) (r : Bool) (w : World), fs.all (simpleF P) = true → eqAll P xs ys fs = some r → (Op.eqFields (d + 1) xs ys fs).run P w = .ok r w
  | [], r, w, _, h => by simp only [eqAll] at h; cases h; rfl
  | f :: fs, r, w, hs, h => by
    simp only [List.all_cons, Bool.and_eq_true] at hs
    obtain ⟨hs1, hs2⟩ := hs
    simp only [simpleF, Bool.and_eq_true, bne_iff_ne, ne_eq] at hs1
    unfold eqAll at h
    have hname : f.name ≠ "_" := hs1.1
    simp only [Op.eqFields, if_pos hname]
    split at h
    · rename_i q k a k' b hu hx hy
      split at h
      · rename_i hk
        subst hk
        obtain ⟨r', hr', rfl⟩ := Option.map_eq_some_iff.1 h
        have ih := run_eqFields (d := d) fs r' w hs2 hr'
        simp only [bind]
        rw [runBind (run_part1 (.inl ⟨q, hu⟩) hx), runBind (run_part1 (.inl ⟨q, hu⟩) hy), runBind (run_equalIn_int w d f.type k q a b hu)]
        cases hab : (a == b)
        · simp
        · simpa using ih
      · cases h
    · rename_i a b hu hx hy
      obtain ⟨r', hr', rfl⟩ := Option.map_eq_some_iff.1 h
      have ih := run_eqFields (d := d) fs r' w hs2 hr'
      simp only [bind]
      rw [runBind (run_part1 (.inr hu) hx), runBind (run_part1 (.inr hu) hy), runBind (run_equalIn_bool' w d f.type a b hu)]
      cases hab : (a == b)
      · simp
      · simpa using ih
    · cases h
theorem run_neqS {P : Program} {t : TypeId} {xs ys : Array Value} {r : Bool} {x y : Operand} (ht : P.underlying t = some (.struct (P.fieldsOf t))) (hp : P.stoodInHeld t = false) (hm : P.eqGuardType P.depth t = false) (hs : (P.fieldsOf t).toList.all (simpleF P) = true)
    (hr : eqAll P xs ys (P.fieldsOf t).toList = some r) (w : World) : (vN (do eqGuard .neq t x y (.agg xs) (.agg ys); binOp .neq t (.agg xs) (.agg ys))).run P w = .ok (.value (.bool (!r))) w := by
  refine run_vN ?_
  simp only [bind]
  rw [runBind (run_eqGuard_agg w .neq t x y xs ys hm), run_neq_struct, run_equalIn_agg w 9999 t xs ys ht hp, run_eqFields _ r w hs hr]
  rfl
theorem run_eqlS {P : Program} {t : TypeId} {xs ys : Array Value} {r : Bool} {x y : Operand} (ht : P.underlying t = some (.struct (P.fieldsOf t))) (hp : P.stoodInHeld t = false) (hm : P.eqGuardType P.depth t = false) (hs : (P.fieldsOf t).toList.all (simpleF P) = true)
    (hr : eqAll P xs ys (P.fieldsOf t).toList = some r) (w : World) : (vN (do eqGuard .eql t x y (.agg xs) (.agg ys); binOp .eql t (.agg xs) (.agg ys))).run P w = .ok (.value (.bool r)) w := by
  refine run_vN ?_
  simp only [bind]
  rw [runBind (run_eqGuard_agg w .eql t x y xs ys hm), run_eql_struct, run_equalIn_agg w 9999 t xs ys ht hp, run_eqFields _ r w hs hr]
  rfl
end Go.Sp
