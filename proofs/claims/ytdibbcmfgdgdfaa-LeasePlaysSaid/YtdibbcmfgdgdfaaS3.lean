/- Single operations of the walk: values, loads, stores, new blocks, calls. Conditions: none. -/
import Derived.Test.YtdibbcmfgdgdfaaS2
import Derived.Laws.AppendOwn
import Derived.Laws.MakeOwn
import Derived.Laws.OwnMore
set_option linter.unusedVariables false
set_option linter.unusedSimpArgs false
set_option linter.unnecessarySimpa false
namespace Go.Sp
open Go

def opM (n : Nat) (ops : Array Oper) (e : Env) (u : Nat → Value) (i : Nat) : Option (Option Nat × Sem Next) :=
  match ops[i]? with
  | none => none
  | some o => match wantE ops e o with
    | some true => match o.dst with
      | none => some (none, execOp (ev e u) o)
      | some d => match Nat.blt d n with
        | true => some (some d, execOp (ev e u) o)
        | false => none
    | _ => none

def vN (s : Sem Value) : Sem Next := do pure (.value (← s))
def uN (s : Sem Unit) : Sem Next := do s; pure .skip

theorem runBind {α β : Type} {P : Program} {f : α → Sem β} : ∀ {s : Sem α} {w : World} {a : α} {w' : World}, s.run P w = .ok a w' → (s.bind f).run P w = (f a).run P w'
  | .pure _, w, a, w', h => by simp only [Sem.run] at h; cases h; rfl
  | .load m x k, w, a, w', h => by
    simp only [Sem.bind, Sem.run] at h ⊢
    split at h
    · rename_i v hv; exact runBind h
    · rename_i hv
      split at h
      · rename_i v l hf; exact runBind h
      · cases h
  | .store m x v k, w, a, w', h => by
    cases v <;> simp only [Sem.bind, Sem.run] at h ⊢ <;> first
      | (cases h; done)
      | (split at h
         · split at h
           · cases h
           · rename_i hfz; simp only [hfz]; exact runBind h
         · split at h
           · exact runBind h
           · cases h)
  | .new o k, w, a, w', h => by simp only [Sem.bind, Sem.run] at h ⊢; exact runBind h
  | .shape r k, w, a, w', h => by simp only [Sem.bind, Sem.run] at h ⊢; exact runBind h
  | .freeze x n k, w, a, w', h => by simp only [Sem.bind, Sem.run] at h ⊢; exact runBind h
  | .frozen x k, w, a, w', h => by simp only [Sem.bind, Sem.run] at h ⊢; exact runBind h
  | .getObj r k, w, a, w', h => by
    simp only [Sem.bind, Sem.run] at h ⊢
    split at h
    · cases h
    · exact runBind h
    · cases h
  | .setObj r o k, w, a, w', h => by
    simp only [Sem.bind, Sem.run] at h ⊢
    split at h
    · cases h
    · exact runBind h
    · cases h
  | .choose q k, w, a, w', h => by
    simp only [Sem.bind, Sem.run] at h ⊢
    split at h
    · rename_i hq; rw [if_pos hq]; exact runBind h
    · rename_i hq; rw [if_neg hq]; exact runBind h
  | .sys c k, w, a, w', h => by simp only [Sem.bind, Sem.run] at h ⊢; exact runBind h
  | .program k, w, a, w', h => by simp only [Sem.bind, Sem.run] at h ⊢; exact runBind h
  | .mark m k, w, a, w', h => by simp only [Sem.bind, Sem.run] at h ⊢; exact runBind h
  | .halt _, w, a, w', h => by simp only [Sem.run] at h; cases h

theorem run_vN {P : Program} {s : Sem Value} {w w' : World} {v : Value} (h : s.run P w = .ok v w') : (vN s).run P w = .ok (.value v) w' := by
  have := runBind (f := fun x => Sem.pure (Next.value x)) h; exact this
theorem run_uN {P : Program} {s : Sem Unit} {w w' : World} {v : Unit} (h : s.run P w = .ok v w') : (uN s).run P w = .ok .skip w' := by
  have := runBind (f := fun _ => Sem.pure Next.skip) h; exact this

section
variable {qt : Bool} {C : Cx} {ops : Array Oper} {k : List Item} {i m : Nat} {e : Env} {A : List Asn}

theorem opM_spec {n : Nat} {ops : Array Oper} {e : Env} {u : Nat → Value} {i : Nat} {d : Nat} {M : Sem Next} (h : opM n ops e u i = some (some d, M)) :
    ∃ o, ops[i]? = some o ∧ wantE ops e o = some true ∧ o.dst = some d ∧ d < n ∧ execOp (ev e u) o = M := by
  unfold opM at h
  split at h
  · cases h
  · rename_i o hio
    split at h
    · rename_i hw
      split at h
      · cases h
      · rename_i d' hd
        split at h
        · rename_i hlt
          simp only [Option.some.injEq, Prod.mk.injEq] at h
          obtain ⟨rfl, hM⟩ := h
          exact ⟨o, hio, hw, hd, Nat.le_of_ble_eq_true hlt, hM⟩
        · cases h
    · cases h
theorem opM_spec0 {n : Nat} {ops : Array Oper} {e : Env} {u : Nat → Value} {i : Nat} {M : Sem Next} (h : opM n ops e u i = some (none, M)) :
    ∃ o, ops[i]? = some o ∧ wantE ops e o = some true ∧ o.dst = none ∧ execOp (ev e u) o = M := by
  unfold opM at h
  split at h
  · cases h
  · rename_i o hio
    split at h
    · rename_i hw
      split at h
      · rename_i hd
        simp only [Option.some.injEq, Prod.mk.injEq, true_and] at h
        exact ⟨o, hio, hw, hd, h⟩
      · split at h <;> cases h
    · cases h

/-- what one operation does: whatever holds of each frame and heap that it may come to, holds behind it -/
def OpEff (C : Cx) (ops : Array Oper) (e : Env) (i : Nat) (A : List Asn) (J : Env → List Asn → Prop) : Prop :=
  ∀ (T : Array Value) (w : World) (F : Fr), Fits C.n e T → Own A F w → ∀ (N : Act → World → Prop) (Q : Exit → Act → World → Prop), (C.og = true → LetsOut Q) →
    (∀ (e' : Env) (A' : List Asn) (T' : Array Value) (w' : World), J e' A' → Fits C.n e' T' → Own A' F w' → N ⟨T', []⟩ w') → wpOp C.P ops Q i N ⟨T, []⟩ w
/-- a value that the operation yields wherever this is owned -/
def Val (C : Cx) (ops : Array Oper) (e : Env) (i : Nat) (A : List Asn) (d : Nat) (v : Value) : Prop :=
  ∀ u, ∃ o, ops[i]? = some o ∧ wantE ops e o = some true ∧ o.dst = some d ∧ d < C.n ∧ ∀ F w, Owns A F w → (execOp (ev e u) o).run C.P w = .ok (.value v) w

theorem SOps.op {J : Env → List Asn → Prop} (h : OpEff C ops e i A J) (hJ : ∀ e' A', J e' A' → SOps false C ops k (i + 1) m e' A') : SOps false C ops k i (m + 1) e A := by
  intro T w F hf ho
  unfold Jd
  simp only
  rw [wpOps_step]
  exact h T w F hf ho _ _ (fun hog => ⟨⟨T, []⟩, w, hog⟩) (fun e' A' T' w' hj hf' ho' => hJ e' A' hj T' w' F hf' ho')
theorem SOps.o (h : OpEff C ops e i A (SOps false C ops k (i + 1) m)) : SOps false C ops k i (m + 1) e A := SOps.op h (fun _ _ h => h)
theorem SOps.v {d : Nat} {v : Value} (h : Val C ops e i A d v) (h3 : SOps qt C ops k (i + 1) m ((d, v) :: e) A) : SOps qt C ops k i (m + 1) e A := by
  intro T w F hf ho
  obtain ⟨o, hio, hw, hd, hlt, hr⟩ := h (fun t => T.getD t undef)
  exact Jd.put hio (wantE_spec hf hw) (fun w' ho' => by rw [eval_ev hf]; exact hr F.h w' ho'.1) (by rw [hd]; rfl) ho (h3 _ w F (hf.put hlt v) ho)

section
variable {J : Env → List Asn → Prop}
theorem Op.v {d : Nat} {v : Value} (h : Val C ops e i A d v) (h3 : J ((d, v) :: e) A) : OpEff C ops e i A J := by
  intro T w F hf ho N Q hq hN
  obtain ⟨o, hio, hw, hd, hlt, hr⟩ := h (fun t => T.getD t undef)
  unfold wpOp
  simp only [hio, wantE_spec hf hw, if_true]
  refine .inl ?_
  unfold Oper.wp
  rw [eval_ev hf, hr F.h w ho.1]
  simp only [Oper.upon, hd, Act.put]
  exact hN _ _ _ _ h3 (hf.put hlt v) ho

/-- an operation that yields a value: which one, and what is owned behind it, stands open -/
theorem Op.eff {X : Type} (d : Nat) (M : Sem Next) (val : X → Value) (A' : X → List Asn) (h1 : ∀ u, opM C.n ops e u i = some (some d, M))
    (h2 : ∀ F w, Owns A F w → ∃ x w', M.run C.P w = .ok (.value (val x)) w' ∧ Owns (A' x) F w' ∧ Same w w') (h3 : ∀ x, J ((d, val x) :: e) (A' x)) : OpEff C ops e i A J := by
  intro T w F hf ho N Q hq hN
  obtain ⟨o, hio, hw, hd, hlt, hM⟩ := opM_spec (h1 (fun t => T.getD t undef))
  unfold wpOp
  simp only [hio, wantE_spec hf hw, if_true]
  refine .inl ?_
  obtain ⟨x, w', hr, ho', hsm⟩ := h2 F.h w ho.1
  unfold Oper.wp
  rw [eval_ev hf, hM, hr]
  simp only [Oper.upon, hd, Act.put]
  exact hN _ _ _ w' (h3 x) (hf.put hlt _) ⟨ho', ho.2.trans hsm⟩
theorem Op.sto (M : Sem Next) {A' : List Asn} (h1 : ∀ u, opM C.n ops e u i = some (none, M)) (h2 : ∀ F w, Owns A F w → ∃ w', M.run C.P w = .ok .skip w' ∧ Owns A' F w' ∧ Same w w')
    (h3 : J e A') : OpEff C ops e i A J := by
  intro T w F hf ho N Q hq hN
  obtain ⟨o, hio, hw, hd, hM⟩ := opM_spec0 (h1 (fun t => T.getD t undef))
  unfold wpOp
  simp only [hio, wantE_spec hf hw, if_true]
  refine .inl ?_
  obtain ⟨w', hr, ho', hsm⟩ := h2 F.h w ho.1
  unfold Oper.wp
  rw [eval_ev hf, hM, hr]
  simp only [Oper.upon, hd, Act.put]
  exact hN _ _ _ w' h3 hf ⟨ho', ho.2.trans hsm⟩

theorem opE_spec {P : Program} {n : Nat} {ops : Array Oper} {e : Env} {u : Nat → Value} {i : Nat} {d : Nat} {x : Next} (h : (opM n ops e u i).bind (fun x => (peval P x.2).map (fun y => (x.1, y))) = some (some d, x)) :
    ∃ o, ops[i]? = some o ∧ wantE ops e o = some true ∧ o.dst = some d ∧ d < n ∧ peval P (execOp (ev e u) o) = some x := by
  rw [Option.bind_eq_some_iff] at h
  obtain ⟨⟨d', M⟩, h1, h2⟩ := h
  rw [Option.map_eq_some_iff] at h2
  obtain ⟨y, h3, h4⟩ := h2
  cases h4
  obtain ⟨o, k1, k2, k3, k4, k5⟩ := opM_spec h1
  exact ⟨o, k1, k2, k3, k4, by rw [k5]; exact h3⟩

/-- a call by its contract -/
theorem Op.call (d : Nat) (g : FuncId) (args : Array Value) (is : List Nat) {B D : List Asn} {R : Value → Asn} {og : Bool}
    (h1 : ∀ u, (opM C.n ops e u i).bind (fun x => (peval C.P x.2).map (fun y => (x.1, y))) = some (some d, .enter g args)) (hs : Ctr C.P g args B R og) (hog : og = false ∨ C.og = true) (hp : pickAt is A = some (B, D))
    (h3 : ∀ v, J ((d, v) :: e) (R v :: D)) : OpEff C ops e i A J := by
  intro T w F hf ho N Q hq hN
  obtain ⟨o, hio, hw, hd, hlt, hM⟩ := opE_spec (h1 (fun t => T.getD t undef))
  unfold wpOp
  simp only [hio, wantE_spec hf hw, if_true]
  refine .inl ?_
  unfold Oper.wp
  rw [eval_ev hf, run_peval hM]
  simp only [Oper.upon, hd, Act.put]
  obtain ⟨hD, h6, h7, h8⟩ := Owns.split (Owns.perm (pickAt_perm hp) ho.1)
  refine (hs w ⟨hD.join F.h, F.W⟩ ⟨h7, ho.2⟩).mono fun en w' hen => ?_
  cases en with
  | returned v => exact hN _ _ _ w' (h3 v) (hf.put hlt _) ⟨h8 [R v] F.h w' h6 hen.1, hen.2⟩
  | panicked ch => exact hen.elim
  | outgrown => exact hq (hog.resolve_left (by rw [show og = true from hen]; simp))
/-- a contract with one answer -/
theorem Op.callS (d : Nat) (g : FuncId) (args : Array Value) (v : Value) (is : List Nat) {B D B' : List Asn} {og : Bool}
    (h1 : ∀ u, (opM C.n ops e u i).bind (fun x => (peval C.P x.2).map (fun y => (x.1, y))) = some (some d, .enter g args)) (hs : Ctr C.P g args B (fun v' => star (fact (v' = v) :: B')) og) (hog : og = false ∨ C.og = true) (hp : pickAt is A = some (B, D))
    (h3 : J ((d, v) :: e) (B' ++ D)) : OpEff C ops e i A J := by
  intro T w F hf ho N Q hq hN
  refine Op.call (J := fun e' A' => ∃ v', e' = (d, v') :: e ∧ A' = star (fact (v' = v) :: B') :: D) d g args is h1 hs hog hp (fun v' => ⟨v', rfl, rfl⟩) T w F hf ho N Q hq ?_
  rintro _ _ T' w' ⟨v', rfl, rfl⟩ hf' ho'
  have h4 := Owns.fact_out (Owns.star_out ho'.1)
  obtain ⟨rfl, h5⟩ := h4
  exact hN _ _ _ w' h3 hf' ⟨h5, ho'.2⟩
/-- a contract with one of many answers -/
theorem Op.callX {X : Type} (d : Nat) (g : FuncId) (args : Array Value) (v : X → Value) (p : X → Prop) (is : List Nat) {B D : List Asn} {B' : X → List Asn} {og : Bool}
    (h1 : ∀ u, (opM C.n ops e u i).bind (fun x => (peval C.P x.2).map (fun y => (x.1, y))) = some (some d, .enter g args)) (hs : Ctr C.P g args B (fun v' => ex fun x => fact (v' = v x) :: fact (p x) :: B' x) og) (hog : og = false ∨ C.og = true) (hp : pickAt is A = some (B, D))
    (h3 : ∀ x, p x → J ((d, v x) :: e) (B' x ++ D)) : OpEff C ops e i A J := by
  intro T w F hf ho N Q hq hN
  refine Op.call (J := fun e' A' => ∃ v', e' = (d, v') :: e ∧ A' = (ex fun x => fact (v' = v x) :: fact (p x) :: B' x) :: D) d g args is h1 hs hog hp (fun v' => ⟨v', rfl, rfl⟩) T w F hf ho N Q hq ?_
  rintro _ _ T' w' ⟨v', rfl, rfl⟩ hf' ho'
  obtain ⟨x, h4⟩ := Owns.ex_out ho'.1
  have h5 := Owns.fact_out h4
  obtain ⟨rfl, h6⟩ := h5
  have h7 := Owns.fact_out h6
  exact hN _ _ _ w' (h3 x h7.1) hf' ⟨h7.2, ho'.2⟩
end

/-- a value that no memory bears on -/
theorem Val.pv (d : Nat) (M : Sem Next) (v : Value) (h1 : ∀ u, opM C.n ops e u i = some (some d, M)) (h2 : peval C.P M = some (.value v)) : Val C ops e i A d v := fun u =>
  let ⟨o, hio, hw, hd, hlt, hM⟩ := opM_spec (h1 u)
  ⟨o, hio, hw, hd, hlt, fun _ w _ => by rw [hM]; exact run_peval h2 w⟩
theorem Val.of (d : Nat) (M : Sem Next) (v : Value) (h1 : ∀ u, opM C.n ops e u i = some (some d, M)) (h2 : ∀ F w, Owns A F w → M.run C.P w = .ok (.value v) w) : Val C ops e i A d v := fun u =>
  let ⟨o, hio, hw, hd, hlt, hM⟩ := opM_spec (h1 u)
  ⟨o, hio, hw, hd, hlt, fun F w ho => by rw [hM]; exact h2 F w ho⟩
/-- the value, said otherwise -/
theorem Val.pe (d : Nat) (v v' : Value) (h1 : ∀ u, (opM C.n ops e u i).bind (fun x => (peval C.P x.2).map (fun y => (x.1, y))) = some (some d, .value v)) (hv : v = v') : Val C ops e i A d v' := fun u =>
  let ⟨o, hio, hw, hd, hlt, hM⟩ := opE_spec (h1 u)
  ⟨o, hio, hw, hd, hlt, fun _ w _ => by rw [← hv]; exact run_peval hM w⟩

/-- a call whose answer is known and that leaves what is owned as it was -/
theorem SOps.callQ (d : Nat) (g : FuncId) (args : Array Value) (v : Value) (is : List Nat) {B D : List Asn}
    (h1 : ∀ u, (opM C.n ops e u i).bind (fun x => (peval C.P x.2).map (fun y => (x.1, y))) = some (some d, .enter g args)) (hs : Ctr C.P g args B (fun v' => star (fact (v' = v) :: B)) false) (hp : pickAt is A = some (B, D))
    (h3 : SOps qt C ops k (i + 1) m ((d, v) :: e) A) : SOps qt C ops k i (m + 1) e A := by
  intro T w F hf ho
  obtain ⟨o, hio, hw, hd, hlt, hM⟩ := opE_spec (h1 (fun t => T.getD t undef))
  have hno : ∀ w F, Own A F w → Calls C.P g args w (fun en w' => en = .returned v ∧ Own A F w') := by
    intro w F ho
    obtain ⟨hD, h6, h7, h8⟩ := Owns.split (Owns.perm (pickAt_perm hp) ho.1)
    refine (hs w ⟨hD.join F.h, F.W⟩ ⟨h7, ho.2⟩).mono fun en w' hen => ?_
    cases en with
    | returned v' =>
      have h9 := h8 _ F.h w' h6 hen.1
      have h10 := Owns.fact_out (Owns.star_out h9)
      exact ⟨by rw [h10.1], Owns.perm (pickAt_perm hp).symm h10.2, hen.2⟩
    | panicked ch => exact hen.elim
    | outgrown => cases hen
  cases qt with
  | false =>
    unfold Jd
    simp only
    rw [wpOps_step]
    unfold wpOp
    simp only [hio, wantE_spec hf hw, if_true]
    refine .inl ?_
    unfold Oper.wp
    rw [eval_ev hf, run_peval hM]
    simp only [Oper.upon, hd, Act.put]
    refine (hno w F ho).mono fun en w' hen => ?_
    obtain ⟨rfl, hen⟩ := hen
    exact h3 _ w' F (hf.put hlt _) hen
  | true =>
    have h4 := h3 _ w F (hf.put hlt v) ho
    refine ⟨by have := h4.1; omega, ?_⟩
    rw [drop_ops hio]
    unfold wpQuiet
    simp only [wantE_spec hf hw, if_true]
    refine ⟨v, fun w' ho' => ?_, by rw [hd]; exact h4.2⟩
    unfold Oper.quietAt
    rw [eval_ev hf, run_peval hM]
    exact ⟨rfl, hno w' F ho'⟩

theorem SOps.split (E : Bool → Env) (b : Bool) (ht : b = true → SOps qt C ops k i m (E true) A) (hf : b = false → SOps qt C ops k i m (E false) A) : SOps qt C ops k i m (E b) A := by
  cases b
  · exact hf rfl
  · exact ht rfl
theorem At.split (E : Bool → Env) (b : Bool) (ht : b = true → At C k (E true) A) (hf : b = false → At C k (E false) A) : At C k (E b) A := by
  cases b
  · exact hf rfl
  · exact ht rfl
end
/-- the answer's chunks, shut -/
theorem shutS {A B D : List Asn} {v : Value} {F : Hp} {w : World} (is : List Nat) (hp : pickAt is A = some (B, D)) (ho : Owns A F w) : Owns [star (fact (v = v) :: B)] F w := by
  refine Owns.star_in ?_
  rw [List.append_nil]
  exact Owns.fact_in rfl (Owns.perm (pickAt_perm hp) ho).left
theorem shutX {X : Type} {A D : List Asn} {v : X → Value} {p : X → Prop} {B : X → List Asn} {F : Hp} {w : World} {v' : Value} (x : X) (hv : v' = v x) (hx : p x) (is : List Nat) (hp : pickAt is A = some (B x, D)) (ho : Owns A F w) :
    Owns [ex fun x => fact (v' = v x) :: fact (p x) :: B x] F w := by
  refine Owns.ex_in x ?_
  rw [List.append_nil]
  exact Owns.fact_in hv (Owns.fact_in hx (Owns.perm (pickAt_perm hp) ho).left)
end Go.Sp
