/- The rules of the walk over short frames and owned chunks: points of a function's code, regions in order, calls, returns. Conditions: none. -/
import Derived.Test.YtdibbcmfgdgdfaaS1
set_option linter.unusedVariables false
set_option linter.unusedSimpArgs false
set_option linter.unnecessarySimpa false
namespace Go.Sp
open Go

/-- what of a world no walk turns, but for new blocks -/
structure Same (W w : World) : Prop where
  os : w.os = W.os
  tape : w.tape = W.tape
  output : w.output = W.output
  size : W.heap.size ≤ w.heap.size
theorem Same.refl (w : World) : Same w w := ⟨rfl, rfl, rfl, Nat.le_refl _⟩
theorem Same.trans {a b c : World} (h : Same a b) (k : Same b c) : Same a c := ⟨k.os.trans h.os, k.tape.trans h.tape, k.output.trans h.output, Nat.le_trans h.size k.size⟩
/-- a frame: what others own, and the world at the begin -/
structure Fr where
  h : Hp
  W : World
def Own (A : List Asn) (F : Fr) (w : World) : Prop := Owns A F.h w ∧ Same F.W w

structure Cx where
  P : Program
  f : FuncId
  R : Value → Asn
  n : Nat
  og : Bool := true

def PostF (R : Value → Asn) (og : Bool) (F : Fr) : Ending → World → Prop
  | .returned v, w => Own [R v] F w
  | .panicked _, _ => False
  | .outgrown, _ => og = true

/-- a contract -/
def Ctr (P : Program) (f : FuncId) (args : Array Value) (A : List Asn) (R : Value → Asn) (og : Bool := true) : Prop :=
  ∀ w F, Own A F w → Calls P f args w (PostF R og F)

def At (C : Cx) (k : List Item) (e : Env) (A : List Asn) : Prop :=
  ∀ (T : Array Value) (w : World) (F : Fr), Fits C.n e T → Own A F w → Run C.P C.f (PostF C.R C.og F) ⟨T, []⟩ k w

def QK (C : Cx) (k : List Item) (F : Fr) : Exit → Act → World → Prop
  | .normal, a, w => a.defers = [] ∧ Run C.P C.f (PostF C.R C.og F) a k w
  | .outgrown, _, _ => C.og = true
  | _, _, _ => False

/-- a region's operations from number i on, m of them: in order (qt = false), or, of a region that draws its order and whose operations leave what is owned alone, by the lexical walk (qt = true) -/
def Jd (qt : Bool) (C : Cx) (ops : Array Oper) (k : List Item) (A : List Asn) (F : Fr) (i m : Nat) (T : Array Value) (w : World) : Prop :=
  match qt with
  | false => wpOps C.P ops (QK C k F) (List.range' i m) ⟨T, []⟩ w
  | true => i + m = ops.size ∧ wpQuiet C.P ops (Own A F) (fun a => ∀ w', Own A F w' → a.defers = [] ∧ Run C.P C.f (PostF C.R C.og F) a k w') (ops.toList.drop i) ⟨T, []⟩
def SOps (qt : Bool) (C : Cx) (ops : Array Oper) (k : List Item) (i m : Nat) (e : Env) (A : List Asn) : Prop :=
  ∀ (T : Array Value) (w : World) (F : Fr), Fits C.n e T → Own A F w → Jd qt C ops k A F i m T w

/-! ### points -/
def pick : List Nat → Code → Code
  | [], c => c
  | 0 :: p, .seq a _ => pick p a
  | _ :: p, .seq _ b => pick p b
  | 0 :: p, .cond _ a _ => pick p a
  | _ :: p, .cond _ _ b => pick p b
  | _ :: p, .block _ c => pick p c
  | _ :: p, .loop c => pick p c
  | _ :: p, .scope c => pick p c
  | _ :: _, c => c
def opsOf : Code → Array Oper
  | .region _ ops _ => ops
  | _ => #[]

def rgOf : List Item → Option (Array Oper × Nat × Bool × List Item)
  | .code (.region _ ops d) :: k => some (ops, ops.size, d, k)
  | _ => none
def cdOf (n : Nat) : List Item → Option (Operand × List Item × List Item)
  | .code (.cond c x y) :: k => some (c, adm n (.code x :: k), adm n (.code y :: k))
  | _ => none
def rtOf : List Item → Bool
  | .code .ret :: _ => true
  | [] => true
  | _ => false

theorem At.pick {C : Cx} {k : List Item} {e e' : Env} {A : List Asn} (l : List Nat) (h : e.pick l = some e') (ha : At C k e' A) : At C k e A :=
  fun T w F hf ho => ha T w F (hf.sub (Env.pick_sub h)) ho
theorem SOps.pick {qt : Bool} {C : Cx} {ops : Array Oper} {k : List Item} {i m : Nat} {e e' : Env} {A : List Asn} (l : List Nat) (h : e.pick l = some e') (ha : SOps qt C ops k i m e' A) : SOps qt C ops k i m e A :=
  fun T w F hf ho => ha T w F (hf.sub (Env.pick_sub h)) ho

theorem At.conseq {C : Cx} {k : List Item} {e : Env} {A : List Asn} {X : Type} {A' : X → List Asn} (h : ∀ F w, Owns A F w → ∃ x, Owns (A' x) F w) (ha : ∀ x, At C k e (A' x)) : At C k e A :=
  fun T w F hf ho => let ⟨x, hx⟩ := h F.h w ho.1; ha x T w F hf ⟨hx, ho.2⟩
theorem SOps.conseq {C : Cx} {ops : Array Oper} {k : List Item} {i m : Nat} {e : Env} {A : List Asn} {X : Type} {A' : X → List Asn} (h : ∀ F w, Owns A F w → ∃ x, Owns (A' x) F w) (ha : ∀ x, SOps false C ops k i m e (A' x)) : SOps false C ops k i m e A :=
  fun T w F hf ho => let ⟨x, hx⟩ := h F.h w ho.1; ha x T w F hf ⟨hx, ho.2⟩
theorem At.conseq1 {C : Cx} {k : List Item} {e : Env} {A A' : List Asn} (h : ∀ F w, Owns A F w → Owns A' F w) (ha : At C k e A') : At C k e A :=
  fun T w F hf ho => ha T w F hf ⟨h F.h w ho.1, ho.2⟩
theorem SOps.conseq1 {C : Cx} {ops : Array Oper} {k : List Item} {i m : Nat} {e : Env} {A A' : List Asn} (h : ∀ F w, Owns A F w → Owns A' F w) (ha : SOps false C ops k i m e A') : SOps false C ops k i m e A :=
  fun T w F hf ho => ha T w F hf ⟨h F.h w ho.1, ho.2⟩
/-- what is owned tells a fact -/
theorem At.learn {C : Cx} {k : List Item} {e : Env} {A : List Asn} {p : Prop} (h : ∀ F w, Owns A F w → p) (ha : p → At C k e A) : At C k e A :=
  fun T w F hf ho => ha (h F.h w ho.1) T w F hf ho
theorem SOps.learn {qt : Bool} {C : Cx} {ops : Array Oper} {k : List Item} {i m : Nat} {e : Env} {A : List Asn} {p : Prop} (h : ∀ F w, Owns A F w → p) (ha : p → SOps qt C ops k i m e A) : SOps qt C ops k i m e A :=
  fun T w F hf ho => ha (h F.h w ho.1) T w F hf ho
theorem At.perm {C : Cx} {k : List Item} {e : Env} {A B D : List Asn} (is : List Nat) (h : pickAt is A = some (B, D)) (ha : At C k e (B ++ D)) : At C k e A :=
  At.conseq1 (fun _ _ => Owns.perm (pickAt_perm h)) ha
theorem SOps.perm {C : Cx} {ops : Array Oper} {k : List Item} {i m : Nat} {e : Env} {A B D : List Asn} (is : List Nat) (h : pickAt is A = some (B, D)) (ha : SOps false C ops k i m e (B ++ D)) : SOps false C ops k i m e A :=
  SOps.conseq1 (fun _ _ => Owns.perm (pickAt_perm h)) ha
/-- only these chunks, in this order -/
theorem At.keep {C : Cx} {k : List Item} {e : Env} {A B D : List Asn} (is : List Nat) (h : pickAt is A = some (B, D)) (ha : At C k e B) : At C k e A :=
  At.conseq1 (fun _ _ ho => (Owns.perm (pickAt_perm h) ho).left) ha
theorem SOps.keep {C : Cx} {ops : Array Oper} {k : List Item} {i m : Nat} {e : Env} {A B D : List Asn} (is : List Nat) (h : pickAt is A = some (B, D)) (ha : SOps false C ops k i m e B) : SOps false C ops k i m e A :=
  SOps.conseq1 (fun _ _ ho => (Owns.perm (pickAt_perm h) ho).left) ha

theorem At.adm {C : Cx} {k : List Item} {e : Env} {A : List Asn} {k' : List Item} (n : Nat) (hk : Sp.adm n k = k') (h : At C k' e A) : At C k e A :=
  fun T w F hf ho => Run.adm n k (hk ▸ h T w F hf ho)

theorem At.region {C : Cx} {k k' : List Item} {e : Env} {A : List Asn} {ops : Array Oper} {m : Nat} (hk : rgOf k = some (ops, m, false, k')) (n : Nat) {k'' : List Item} (hk2 : Sp.adm n k' = k'')
    (h : SOps false C ops k'' 0 m e A) : At C k e A := by
  intro T w F hf ho
  unfold rgOf at hk
  split at hk
  · rename_i id ops' d k1
    simp only [Option.some.injEq, Prod.mk.injEq] at hk
    obtain ⟨rfl, rfl, rfl, rfl⟩ := hk
    have h1 : wpOps C.P _ (QK C k'' F) (List.range' 0 _) ⟨T, []⟩ w := h T w F hf ho
    rw [← List.range_eq_range'] at h1
    refine Run.of_wp (wp_region (id := id) h1) (fun a' w' hq => ?_) (fun _ _ hq => hq) (fun ex a' w' hq => ?_)
    · subst hk2; exact Run.adm n _ hq.2
    · cases ex <;> simp [QK] at hq ⊢
  · cases hk

theorem At.regionQ {C : Cx} {k k' : List Item} {e : Env} {A : List Asn} {ops : Array Oper} {m : Nat} (hk : rgOf k = some (ops, m, true, k')) (n : Nat) {k'' : List Item} (hk2 : Sp.adm n k' = k'')
    (hm : C.P.follows .mixedOrders = true) (hB : Region.lexB .any ops = true) (h : SOps true C ops k'' 0 m e A) : At C k e A := by
  intro T w F hf ho
  unfold rgOf at hk
  split at hk
  · rename_i id ops' d k1
    simp only [Option.some.injEq, Prod.mk.injEq] at hk
    obtain ⟨rfl, rfl, rfl, rfl⟩ := hk
    have h1 := (h T w F hf ho).2
    simp only [List.drop_zero] at h1
    have ho' : Own A F { w with drawn := w.drawn + 1 } := ⟨Owns.retarget (w := w) (fun G _ hG n o hn => hG n o hn) ho.1, ⟨ho.2.os, ho.2.tape, ho.2.output, ho.2.size⟩⟩
    refine Run.of_wp (wp_region_quiet (id := id) (C := Own A F) (Q := QK C k'' F) hm hB ho' ?_) (fun a' w' hq => ?_) (fun _ _ hq => hq) (fun ex a' w' hq => ?_)
    · exact h1
    · subst hk2; exact Run.adm n _ hq.2
    · cases ex <;> simp [QK] at hq ⊢
  · cases hk

theorem At.cond {C : Cx} {k k1 k2 : List Item} {e : Env} {A : List Asn} {c : Operand} (n : Nat) (b : Bool) (hk : cdOf n k = some (c, k1, k2)) (hc : ∀ u, ev e u c = .bool b)
    (ht : b = true → At C k1 e A) (hf : b = false → At C k2 e A) : At C k e A := by
  intro T w F hfit ho
  unfold cdOf at hk
  split at hk
  · rename_i c' x y k'
    simp only [Option.some.injEq, Prod.mk.injEq] at hk
    obtain ⟨rfl, rfl, rfl⟩ := hk
    refine Run.cond (t := b) (by rw [eval_ev hfit]; exact hc _) ?_
    cases b
    · exact Run.adm n _ (hf rfl T w F hfit ho)
    · exact Run.adm n _ (ht rfl T w F hfit ho)
  · cases hk

theorem At.ret {C : Cx} {k : List Item} {e : Env} {A : List Asn} {fn : Func} {v : Value} (hk : rtOf k = true) (hf : C.P.funcs[C.f]? = some fn)
    (hv : ∀ T, Fits C.n e T → ∀ F w, Owns A F w → (results fn T).run C.P w = .ok v w) (hp : ∀ F w, Owns A F w → Owns [C.R v] F w) : At C k e A := by
  intro T w F hfit ho
  unfold rtOf at hk
  split at hk
  · exact Run.ret hf rfl (hv T hfit F.h w ho.1) ⟨hp F.h w ho.1, ho.2⟩
  · exact Run.done hf rfl (hv T hfit F.h w ho.1) ⟨hp F.h w ho.1, ho.2⟩
  · cases hk

theorem results0 {P : Program} {fn : Func} (h : fn.results = #[]) (T : Array Value) (w : World) : (results fn T).run P w = .ok (.tuple #[]) w := by
  simp [results, h, pure, bind]; rfl
theorem results1 {P : Program} {fn : Func} {t : Nat} (h : fn.results = #[.tmp t]) (T : Array Value) (w : World) : (results fn T).run P w = .ok (T.getD t undef) w := by
  simp [results, h, pure, bind]; rfl
theorem results2 {P : Program} {fn : Func} {t s : Nat} (h : fn.results = #[.tmp t, .tmp s]) (T : Array Value) (w : World) : (results fn T).run P w = .ok (.tuple #[T.getD t undef, T.getD s undef]) w := by
  simp [results, h, pure, bind]; rfl
theorem results3 {P : Program} {fn : Func} {t s r : Nat} (h : fn.results = #[.tmp t, .tmp s, .tmp r]) (T : Array Value) (w : World) : (results fn T).run P w = .ok (.tuple #[T.getD t undef, T.getD s undef, T.getD r undef]) w := by
  simp [results, h, pure, bind]; rfl
theorem Fits.getD {n : Nat} {e : Env} {T : Array Value} (h : Fits n e T) {t : Nat} {v : Value} (hv : e.get t = some v) : T.getD t undef = v := by
  rw [Array.getD_eq_getD_getElem?, h.at_ t v hv]; rfl
theorem At.ret0 {C : Cx} {k : List Item} {e : Env} {A : List Asn} {fn : Func} (hk : rtOf k = true) (hf : C.P.funcs[C.f]? = some fn) (hr : fn.results = #[])
    (hp : ∀ F w, Owns A F w → Owns [C.R (.tuple #[])] F w) : At C k e A := At.ret hk hf (fun T _ _ w _ => results0 hr T w) hp
theorem At.ret1 {C : Cx} {k : List Item} {e : Env} {A : List Asn} {fn : Func} {t : Nat} {v : Value} (hk : rtOf k = true) (hf : C.P.funcs[C.f]? = some fn) (hr : fn.results = #[.tmp t]) (hv : e.get t = some v)
    (hp : ∀ F w, Owns A F w → Owns [C.R v] F w) : At C k e A := At.ret hk hf (fun T hfit _ w _ => by rw [results1 hr, hfit.getD hv]) hp
theorem At.ret2 {C : Cx} {k : List Item} {e : Env} {A : List Asn} {fn : Func} {t s : Nat} {v u : Value} (hk : rtOf k = true) (hf : C.P.funcs[C.f]? = some fn) (hr : fn.results = #[.tmp t, .tmp s]) (hv : e.get t = some v) (hu : e.get s = some u)
    (hp : ∀ F w, Owns A F w → Owns [C.R (.tuple #[v, u])] F w) : At C k e A := At.ret hk hf (fun T hfit _ w _ => by rw [results2 hr, hfit.getD hv, hfit.getD hu]) hp
theorem At.ret3 {C : Cx} {k : List Item} {e : Env} {A : List Asn} {fn : Func} {t s r : Nat} {v u x : Value} (hk : rtOf k = true) (hf : C.P.funcs[C.f]? = some fn) (hr : fn.results = #[.tmp t, .tmp s, .tmp r]) (hv : e.get t = some v) (hu : e.get s = some u) (hx : e.get r = some x)
    (hp : ∀ F w, Owns A F w → Owns [C.R (.tuple #[v, u, x])] F w) : At C k e A := At.ret hk hf (fun T hfit _ w _ => by rw [results3 hr, hfit.getD hv, hfit.getD hu, hfit.getD hx]) hp

/-- the frame at the start -/
def argEnv : Nat → List Value → Env
  | _, [] => []
  | i, v :: r => (i, v) :: argEnv (i + 1) r
theorem argEnv_get : ∀ (l : List Value) (j i : Nat) (v : Value), (argEnv j l).get i = some v → j ≤ i ∧ l[i - j]? = some v
  | [], j, i, v, h => by simp [argEnv, Env.get] at h
  | x :: r, j, i, v, h => by
    simp only [argEnv, Env.get_cons] at h
    split at h
    · rename_i hij; subst hij; cases h; simp
    · obtain ⟨h1, h2⟩ := argEnv_get r (j + 1) i v h
      refine ⟨by omega, ?_⟩
      rw [show i - j = (i - (j + 1)) + 1 by omega, List.getElem?_cons_succ]; exact h2
theorem spec_of_at {P : Program} {f : FuncId} {fn : Func} {c : Code} {args : List Value} {A : List Asn} {R : Value → Asn} {n : Nat} {og : Bool} {e : Env} {k : List Item}
    (hf : P.funcs[f]? = some fn) (hb : fn.body = some c) (hn : fn.ntmps = n) (hs : Nat.ble args.length n = true) (he : argEnv 0 args = e) (m : Nat) (hk : Sp.adm m [.code c] = k) (h : At ⟨P, f, R, n, og⟩ k e A) : Ctr P f args.toArray A R og := by
  intro w F ho
  have hs' := Nat.le_of_ble_eq_true hs
  refine calls_of_run hf hb (Run.adm m _ ?_)
  rw [hk]
  refine h _ w F ⟨by simp [hn]; omega, fun i v hv => ?_⟩ ho
  subst he
  obtain ⟨_, h2⟩ := argEnv_get args 0 i v hv
  have hl : i < args.length := by have := List.getElem?_eq_some_iff.1 h2; simpa using this.1
  rw [Array.getElem?_append_left (by simpa using hl)]
  simpa using h2

/-! ### operations -/
theorem SOps.nil {qt : Bool} {C : Cx} {ops : Array Oper} {k : List Item} {i : Nat} {e : Env} {A : List Asn} (hi : qt = false ∨ ops.size = i) (h : At C k e A) : SOps qt C ops k i 0 e A := by
  intro T w F hf ho
  cases qt with
  | false => exact ⟨rfl, h T w F hf ho⟩
  | true =>
    have hi := hi.resolve_left (by simp)
    refine ⟨by rw [hi]; rfl, ?_⟩
    rw [List.drop_of_length_le (by simp [hi])]
    exact fun w' ho' => ⟨rfl, h T w' F hf ho'⟩

def wantE (ops : Array Oper) (e : Env) (o : Oper) : Option Bool :=
  match o.guard with
  | none => some true
  | some (j, want) => match (ops[j]?).bind (·.dst) with
    | none => some false
    | some d => match e.get d with
      | some (.bool b) => some (b == want)
      | some (.tuple _) => some false
      | _ => none
theorem wantE_spec {ops : Array Oper} {n : Nat} {e : Env} {T : Array Value} {o : Oper} {b : Bool} (hf : Fits n e T) (h : wantE ops e o = some b) : Region.wanted o (yielded ops T) = b := by
  unfold wantE at h
  unfold Region.wanted
  split at h
  · rename_i hg; rw [hg]; cases h; rfl
  · rename_i j want hg
    rw [hg]
    simp only [yielded]
    split at h
    · rename_i hd; rw [hd]; cases h; rfl
    · rename_i d hd
      rw [hd]
      split at h
      · rename_i b' hb
        have h1 := hf.at_ d _ hb
        simp only [Option.bind_some, h1]
        cases h
        cases b' <;> cases want <;> rfl
      · rename_i vs hb
        have h1 := hf.at_ d _ hb
        simp only [Option.bind_some, h1]
        cases h
        cases want <;> rfl
      · cases h

def putE (n : Nat) (o : Oper) (v : Value) (e : Env) : Option Env :=
  match o.dst with
  | none => some e
  | some d => match Nat.blt d n with
    | true => some ((d, v) :: e)
    | false => none
theorem putE_spec {n : Nat} {o : Oper} {v : Value} {e e' : Env} {T : Array Value} (h : putE n o v e = some e') (hf : Fits n e T) : ∃ T', (Act.put ⟨T, []⟩ o.dst v) = ⟨T', []⟩ ∧ Fits n e' T' := by
  unfold putE at h
  split at h
  · rename_i hd; cases h; rw [hd]; exact ⟨T, rfl, hf⟩
  · rename_i d hd
    rw [hd]
    split at h
    · rename_i hlt; cases h
      exact ⟨_, rfl, hf.put (Nat.le_of_ble_eq_true hlt) v⟩
    · cases h

/-- effect-free operations, one behind the other -/
def pures (P : Program) (n : Nat) (ops : Array Oper) (u : Nat → Value) : Nat → Nat → Nat → Env → Option (Nat × Nat × Env)
  | 0, i, m, e => some (i, m, e)
  | c + 1, i, m, e => match m with
    | 0 => none
    | m + 1 => match ops[i]? with
      | none => none
      | some o => match wantE ops e o with
        | none => none
        | some false => match putE n o undef e with
          | some e' => pures P n ops u c (i + 1) m e'
          | none => none
        | some true => match peval P (execOp (ev e u) o) with
          | some (.value v) => match putE n o v e with
            | some e' => pures P n ops u c (i + 1) m e'
            | none => none
          | _ => none

theorem wpOps_step {P : Program} {ops : Array Oper} {Q : Exit → Act → World → Prop} {i m : Nat} {a : Act} {w : World} : wpOps P ops Q (List.range' i (m + 1)) a w = wpOp P ops Q i (wpOps P ops Q (List.range' (i + 1) m)) a w := by
  rw [List.range'_succ, wpOps_cons]
theorem drop_ops {ops : Array Oper} {i : Nat} {o : Oper} (h : ops[i]? = some o) : ops.toList.drop i = o :: ops.toList.drop (i + 1) := by
  obtain ⟨hi, ho⟩ := Array.getElem?_eq_some_iff.1 h
  rw [List.drop_eq_getElem_cons (by simpa using hi)]
  simp [ho]

theorem Jd.put {qt : Bool} {C : Cx} {ops : Array Oper} {k : List Item} {A : List Asn} {F : Fr} {i m : Nat} {T T' : Array Value} {w : World} {o : Oper} {v : Value} (hi : ops[i]? = some o)
    (hw : Region.wanted o (yielded ops T) = true) (hr : ∀ w', Own A F w' → (execOp (Act.eval ⟨T, []⟩) o).run C.P w' = .ok (.value v) w') (hT : Act.put ⟨T, []⟩ o.dst v = ⟨T', []⟩) (ho : Own A F w)
    (h : Jd qt C ops k A F (i + 1) m T' w) : Jd qt C ops k A F i (m + 1) T w := by
  cases qt with
  | false =>
    unfold Jd
    simp only
    rw [wpOps_step]
    unfold wpOp
    simp only [hi, hw, if_true]
    refine .inl ?_
    unfold Oper.wp
    rw [hr w ho]
    simp only [Oper.upon]
    rw [hT]; exact h
  | true =>
    refine ⟨by have := h.1; omega, ?_⟩
    rw [drop_ops hi]
    unfold wpQuiet
    simp only [hw, if_true]
    refine ⟨v, fun w' ho' => ?_, by rw [hT]; exact h.2⟩
    unfold Oper.quietAt
    rw [hr w' ho']
    exact ⟨rfl, rfl⟩
theorem Jd.skip {qt : Bool} {C : Cx} {ops : Array Oper} {k : List Item} {A : List Asn} {F : Fr} {i m : Nat} {T T' : Array Value} {w : World} {o : Oper} (hi : ops[i]? = some o)
    (hw : Region.wanted o (yielded ops T) = false) (hT : Act.put ⟨T, []⟩ o.dst undef = ⟨T', []⟩)
    (h : Jd qt C ops k A F (i + 1) m T' w) : Jd qt C ops k A F i (m + 1) T w := by
  cases qt with
  | false =>
    unfold Jd
    simp only
    rw [wpOps_step]
    unfold wpOp
    simp only [hi, hw, Bool.false_eq_true, if_false]
    rw [hT]; exact h
  | true =>
    refine ⟨by have := h.1; omega, ?_⟩
    rw [drop_ops hi]
    unfold wpQuiet
    simp only [hw, Bool.false_eq_true, if_false]
    rw [hT]; exact h.2

theorem ev_same {e : Env} {T T' : Array Value} (hu : ∀ t, (T'.getD t undef = T.getD t undef) ∨ ∃ v, e.get t = some v) : ev e (fun t => T'.getD t undef) = ev e (fun t => T.getD t undef) := by
  funext x
  cases x with
  | tmp t =>
    simp only [ev]
    split
    · rfl
    · rename_i hn
      rcases hu t with h | ⟨v, h⟩
      · exact h
      · rw [h] at hn; cases hn
  | const v => rfl
  | global g => rfl
  | func f => rfl

theorem putE_more {n : Nat} {o : Oper} {v : Value} {e e' : Env} {T T0 : Array Value} (h : putE n o v e = some e') (hf : Fits n e T) (hu : ∀ t, (T.getD t undef = T0.getD t undef) ∨ ∃ v, e.get t = some v) :
    ∃ T', (Act.put ⟨T, []⟩ o.dst v) = ⟨T', []⟩ ∧ Fits n e' T' ∧ ∀ t, (T'.getD t undef = T0.getD t undef) ∨ ∃ v, e'.get t = some v := by
  obtain ⟨T2, hT2, hf2⟩ := putE_spec h hf
  refine ⟨T2, hT2, hf2, fun t => ?_⟩
  unfold putE at h
  split at h
  · rename_i hd; cases h; rw [hd] at hT2; simp only [Act.put] at hT2; cases hT2; exact hu t
  · rename_i d hd
    split at h
    · cases h
      rw [hd] at hT2; simp only [Act.put] at hT2; cases hT2
      by_cases htd : t = d
      · exact .inr ⟨v, by rw [Env.get_cons, if_pos htd]⟩
      · rcases hu t with h | ⟨v', h⟩
        · left
          rw [Array.getD_eq_getD_getElem?, Array.getElem?_setIfInBounds, if_neg (fun x => htd x.symm), ← Array.getD_eq_getD_getElem?]; exact h
        · exact .inr ⟨v', by rw [Env.get_cons, if_neg htd]; exact h⟩
    · cases h

theorem SOps.pures {qt : Bool} {C : Cx} {ops : Array Oper} {k : List Item} (c : Nat) {i m i' m' : Nat} {e e' : Env} {A : List Asn} (h : ∀ u, Sp.pures C.P C.n ops u c i m e = some (i', m', e')) (hs : SOps qt C ops k i' m' e' A) : SOps qt C ops k i m e A := by
  intro T w F hf ho
  have h1 := h (fun t => T.getD t undef)
  have key : ∀ (c : Nat) (i m : Nat) (e1 : Env) (T' : Array Value), Fits C.n e1 T' → (∀ t, (T'.getD t undef = T.getD t undef) ∨ ∃ v, e1.get t = some v) →
      Sp.pures C.P C.n ops (fun t => T.getD t undef) c i m e1 = some (i', m', e') → Jd qt C ops k A F i m T' w := by
    intro c
    induction c with
    | zero => intro i m e1 T' hf' _ h; simp only [Sp.pures] at h; cases h; exact hs T' w F hf' ho
    | succ c ih =>
      intro i m e1 T' hf' hu h
      cases m with
      | zero => simp [Sp.pures] at h
      | succ m =>
        simp only [Sp.pures] at h
        cases ho' : ops[i]? with
        | none => rw [ho'] at h; simp at h
        | some o =>
          simp only [ho'] at h
          cases hw : wantE ops e1 o with
          | none => rw [hw] at h; simp at h
          | some b =>
            cases b with
            | false =>
              simp only [hw] at h
              cases hp : putE C.n o undef e1 with
              | none => rw [hp] at h; simp at h
              | some e2 =>
                simp only [hp] at h
                obtain ⟨T2, hT2, hf2, hu2⟩ := putE_more hp hf' hu
                exact Jd.skip ho' (wantE_spec hf' hw) hT2 (ih _ _ e2 T2 hf2 hu2 h)
            | true =>
              simp only [hw] at h
              cases hv : peval C.P (execOp (ev e1 fun t => T.getD t undef) o) with
              | none => rw [hv] at h; simp at h
              | some nx =>
                cases nx with
                | value v =>
                  simp only [hv] at h
                  cases hp : putE C.n o v e1 with
                  | none => rw [hp] at h; simp at h
                  | some e2 =>
                    simp only [hp] at h
                    obtain ⟨T2, hT2, hf2, hu2⟩ := putE_more hp hf' hu
                    exact Jd.put ho' (wantE_spec hf' hw) (fun w' _ => by rw [eval_ev hf', ev_same hu]; exact run_peval hv w') hT2 ho (ih _ _ e2 T2 hf2 hu2 h)
                | _ => rw [hv] at h; simp at h
  exact key c i m e T hf (fun t => .inl rfl) h1
end Go.Sp
